/-
  Printed by the decompiler (dec.py) out of the seat's translation. Each function meets its functional program. Conditions: none.
-/
import Derived.Test.YtabodolbdalimaaDc1
import Derived.Test.YtabodolbdalimaaDc4
import Derived.Test.YtabodolbdalimaaDc5
import Derived.Test.YtabodolbdalimaaDc8
import Derived.Test.YtabodolbdalimaaDc9
import Derived.Test.YtabodolbdalimaaDc12
namespace Go.Proofs.Ytabodolbdalimaa
open Go Gv
set_option linter.unusedVariables false
set_option linter.unusedSimpArgs false
set_option maxRecDepth 100000
set_option maxHeartbeats 2000000 in
theorem C_law26_CoverWitness {x0 : List (BitVec 16)} {x1 : List (BitVec 16)}  {r : Bool} (h : L_law26_CoverWitness x0 x1 = some r) : Meets Try.prog 11 [VP.of (x0), VP.of (x1)] (VP.of (r)) := by
  unfold L_law26_CoverWitness at h
  refine Meets.of Try.func11 rfl Try.ntmps11 rfl fun W A => ?_
  refine Wp.seq ?_
  refine Wp.reg ?_
  refine Sq.v (r_asg (look_bool false)) rfl rfl rfl ?_
  refine Sq.nil ?_
  refine To.next ?_
  refine Wp.seq ?_
  refine Wp.reg ?_
  refine Sq.v (r_move (look_t rfl)) rfl rfl rfl ?_
  obtain ⟨y1, hy1, h⟩ := bind_some h
  refine Sq.v (r_call en32 (C_law26_made hy1) ⟨look_t rfl, look_int 17, trivial⟩) rfl rfl rfl ?_
  refine Sq.v (r_asg (look_t rfl)) rfl rfl rfl ?_
  refine Sq.nil ?_
  refine To.next ?_
  refine Wp.seq ?_
  refine Wp.seq ?_
  refine Wp.reg ?_
  refine Sq.v (r_move (look_t rfl)) rfl rfl rfl ?_
  obtain ⟨y2, hy2, h⟩ := bind_some h
  refine Sq.callO (Lin := []) (Lr := []) en32 (Co_law26_made hy2) ⟨look_t rfl, look_int 2, trivial⟩ rfl fun q1 => ?_
  refine Sq.v (r_build (b := (default : T_cube_Cube)) rfl bu28 zr28 (.nil)) rfl rfl rfl ?_
  refine Sq.v (r_bsl (r := [(default : T_cube_Cube)]) Try.underlying31 ty28 zr28 rfl rfl (.cons (by simp) (look_t rfl) (.nil))) rfl rfl rfl ?_
  obtain ⟨y3, hy3, h⟩ := bind_some h
  refine Sq.app (i := 0) Try.underlying31 ty28 zr28 (bytes := 128) (by kernel_rfl) (look_t rfl) rfl (look_t rfl) hy3 rfl fun key1 cap1 => ?_
  refine Sq.v (r_lenO (i := 0) Try.underlying31 (look_t rfl) rfl rfl) rfl rfl rfl ?_
  refine Sq.v (r_move (look_int 0)) rfl rfl rfl ?_
  refine Sq.nil ?_
  refine To.next ?_
  refine Wp.block ?_
  obtain ⟨e1, hl, h⟩ := bind_some h
  refine Wp.loopG (σ := Int) (ε := (Int × Bool) ⊕ (Bool × Int × Bool × Int × Int × Bool × Bool)) (γ := Unit) (δ := Unit) hl (fun s1 g1 => [(0, VP.of (x0)), (1, VP.of (x1)), (4, VP.of (false)), (5, VP.of (y1)), (24, VP.eq (slv key1 y3.length cap1)), (25, VP.of (y3.length : Int)), (26, VP.of (s1))]) (fun s1 g1 => [⟨key1, .row 28 (y3 : List T_cube_Cube) cap1⟩]) (fun q2 => Sum.elim (fun q2 => Exit.exit 0) (fun q2 => Exit.ret) q2) (fun q2 g1 => Sum.elim (fun q2 => [(0, VP.of (x0)), (1, VP.of (x1)), (4, VP.of (false)), (5, VP.of (y1)), (24, VP.eq (slv key1 y3.length cap1)), (25, VP.of (y3.length : Int)), (26, VP.of (q2.1)), (27, VP.of (q2.2))]) (fun q2 => [(0, VP.of (x0)), (1, VP.of (x1)), (4, VP.of (false)), (5, VP.of (y1)), (9, VP.of (q2.1)), (10, VP.of (q2.2.1)), (12, VP.of (q2.2.2.1)), (13, VP.of (q2.2.2.2.1)), (24, VP.eq (slv key1 y3.length cap1)), (25, VP.of (y3.length : Int)), (26, VP.of (q2.2.2.2.2.1)), (27, VP.of (q2.2.2.2.2.2.1)), (61, VP.of (q2.2.2.2.2.2.2))]) q2) (fun q2 g1 => Sum.elim (fun q2 => [⟨key1, .row 28 (y3 : List T_cube_Cube) cap1⟩]) (fun q2 => [⟨key1, .row 28 (y3 : List T_cube_Cube) cap1⟩]) q2) () rfl (.same rfl (.same rfl (.same rfl (.same rfl (.same rfl (.same rfl (.same rfl .nil))))))) (fun s1 r h g1 => ?_) (fun g1 => ?_)
  · clear hl
    refine Wp.seq ?_
    refine Wp.reg ?_
    refine Sq.v (r_lss (look_t rfl) (look_t rfl)) rfl rfl rfl ?_
    refine Sq.nil ?_
    refine To.next ?_
    refine Wp.seq ?_
    refine Wp.cond (look_t rfl) (fun hc => ?_) (fun hc => ?_)
    · replace h := cond_t hc h
      refine Wp.skip ?_
      refine To.next ?_
      refine Wp.seq ?_
      refine Wp.block ?_
      refine Wp.seq ?_
      refine Wp.reg ?_
      obtain ⟨k1, hk1, h⟩ := bind_some h
      refine Sq.v (r_iaO (i := 0) (k := k1) (xs := (y3 : List T_cube_Cube)) Try.underlying31 ty28 (look_t rfl) (look_t rfl) rfl (idx_some hk1)) rfl rfl rfl ?_
      refine Sq.v (r_loadR (i := 0) (k := k1) (Lens.id T_cube_Cube) (r := (lget y3 k1)) ty28 (look_t rfl) rfl (idx_some hk1).1 rfl rfl) rfl rfl rfl ?_
      refine Sq.alloc zr28 rfl fun p1 => ?_
      refine Sq.store (i := 0) (Lens.id T_cube_Cube) (v := ((lget y3 k1) : T_cube_Cube)) (b' := ((lget y3 k1) : T_cube_Cube)) ty28 (look_t rfl) (look_t rfl) rfl rfl rfl ?_
      refine Sq.nil ?_
      refine To.next ?_
      refine Wp.seq ?_
      refine Wp.reg ?_
      refine Sq.v (r_load (i := 0) (Lens.id T_cube_Cube) (r := (lget y3 k1)) ty28 (look_t rfl) rfl rfl rfl) rfl rfl rfl ?_
      refine Sq.v (r_move (look_t rfl)) rfl rfl rfl ?_
      obtain ⟨y4, hy4, h⟩ := bind_some h
      refine Sq.v (r_call en39 (C_cover_Witness hy4) ⟨look_t rfl, look_t rfl, trivial⟩) rfl rfl rfl ?_
      refine Sq.v (r_move (look_t rfl)) rfl rfl rfl ?_
      refine Sq.v (r_ext (look_t rfl) rfl) rfl rfl rfl ?_
      refine Sq.v (r_ext (look_t rfl) rfl) rfl rfl rfl ?_
      refine Sq.v (r_ext (look_t rfl) rfl) rfl rfl rfl ?_
      refine Sq.alloc zr26 rfl fun p2 => ?_
      refine Sq.store (i := 0) (Lens.id (Vector T_api_Value 4)) (v := (y4.1 : Vector T_api_Value 4)) (b' := (y4.1 : Vector T_api_Value 4)) ty26 (look_t rfl) (look_t rfl) rfl rfl rfl ?_
      refine Sq.v (r_asg (look_t rfl)) rfl rfl rfl ?_
      refine Sq.v (r_asg (look_t rfl)) rfl rfl rfl ?_
      refine Sq.nil ?_
      refine To.next ?_
      refine Wp.seq ?_
      obtain ⟨y5, hy5, h⟩ := bind_some h
      obtain ⟨k2, hk2, h⟩ := bind_some h
      obtain ⟨y6, hy6, h⟩ := bind_some h
      obtain ⟨y7, hy7, h⟩ := bind_some h
      refine Wp.draw mixed 15 [some 38, some 39, some 40, some 41, some 42, some 43, some 44, some 45, some 37, some 46, some 47, some 48, some 11, none, some 12] [[], [0], [1], [2], [3], [], [5], [4, 6], [7], [8], [8], [8], [], [9, 12], [10]] [.val (VP.of (lget y3 k1)), .val (VP.of ([(lget y3 k1)])), .val (VP.of (y5)), .val (VP.ptr (lget y5 k2)), .val (VP.of (lget y5 k2)), .val (VP.of (y1)), .val (VP.of (y6)), .val (VP.tup [VP.of (y7.1), VP.of (y7.2.1), VP.of (y7.2.2)]), .val (VP.tup [VP.of (y7.1), VP.of (y7.2.1), VP.of (y7.2.2)]), .val (VP.of (y7.1)), .val (VP.of (y7.2.1)), .val (VP.of (y7.2.2)), .new (.var (default : Vector T_api_Value 4)), .stn 12 (.var (y7.1 : Vector T_api_Value 4)), .val (VP.of (y7.2.1))] [false, false, false, false, false, false, false, false, false, false, false, false, false, true, false] (by kernel_rfl) rfl rfl rfl (fun ps1 => ⟨fun L' hL => HO.v (r_load (i := 1) (Lens.id T_cube_Cube) (r := (lget y3 k1)) ty28 (look_t rfl) (hL _ _ rfl (by kernel_rfl)) rfl rfl) rfl, fun L' hL => HO.v (r_bsl (r := [(lget y3 k1)]) Try.underlying31 ty28 zr28 rfl rfl (.cons (by simp) (look_t rfl) (.nil))) rfl, fun L' hL => HO.v (r_call en35 (C_law26_bits hy5) ⟨look_t rfl, trivial⟩) rfl, fun L' hL => HO.v (r_ias (k := k2) Try.underlying33 ty36 (look_t rfl) (look_int 0) (idx_some hk2)) rfl, fun L' hL => HO.v (r_loadp ty36 (look_t rfl)) rfl, fun L' hL => HO.v (r_move (look_t rfl)) rfl, fun L' hL => HO.v (r_call en35 (C_law26_bits hy6) ⟨look_t rfl, trivial⟩) rfl, fun L' hL => HO.v (r_call en40 (C_ref26_Witness hy7) ⟨look_t rfl, look_t rfl, trivial⟩) rfl, fun L' hL => HO.v (r_move (look_t rfl)) rfl, fun L' hL => HO.v (r_ext (look_t rfl) rfl) rfl, fun L' hL => HO.v (r_ext (look_t rfl) rfl) rfl, fun L' hL => HO.v (r_ext (look_t rfl) rfl) rfl, ao_alloc zr26, ⟨rfl, _, rfl, fun L' q hq => so_var (i := q) (Lens.id (Vector T_api_Value 4)) (v := (y7.1 : Vector T_api_Value 4)) (b' := (y7.1 : Vector T_api_Value 4)) ty26 (look_t rfl) (look_t rfl) hq rfl rfl⟩, fun L' hL => HO.v (r_asg (look_t rfl)) rfl, trivial⟩) fun ps1 => ?_
      refine Sq.v (r_asg (look_t rfl)) rfl rfl rfl ?_
      refine Sq.nil ?_
      refine To.next ?_
      refine Wp.seq ?_
      refine Wp.seq ?_
      refine Wp.reg ?_
      refine Sq.v (r_load (i := 1) (Lens.id (Vector T_api_Value 4)) (r := y4.1) ty26 (look_t rfl) rfl rfl rfl) rfl rfl rfl ?_
      refine Sq.v (r_load (i := 0) (Lens.id (Vector T_api_Value 4)) (r := y7.1) ty26 (look_t rfl) rfl rfl rfl) rfl rfl rfl ?_
      refine Sq.v (r_neA eqv26 rfl eqg26 rfl (look_t rfl) (look_t rfl)) rfl rfl rfl ?_
      refine Sq.v (r_move (look_t rfl)) rfl rfl rfl ?_
      refine Sq.g (fun hb => r_move (look_t rfl)) rfl rfl rfl rfl rfl ?_
      refine Sq.g (fun hb => r_move (look_t rfl)) rfl rfl rfl rfl rfl ?_
      refine Sq.g (fun hb => r_bne Try.underlying4 (look_tc rfl hb) (look_tc rfl hb)) rfl rfl rfl rfl rfl ?_
      refine Sq.v (r_or (look_t rfl) (look_t rfl) (fun h => h)) rfl rfl rfl ?_
      refine Sq.v (r_move (look_t rfl)) rfl rfl rfl ?_
      refine Sq.g (fun hb => r_move (look_t rfl)) rfl rfl rfl rfl rfl ?_
      refine Sq.g (fun hb => r_move (look_t rfl)) rfl rfl rfl rfl rfl ?_
      refine Sq.g (fun hb => r_neq (look_tc rfl hb) (look_tc rfl hb)) rfl rfl rfl rfl rfl ?_
      refine Sq.v (r_or (look_t rfl) (look_t rfl) (fun h => h)) rfl rfl rfl ?_
      refine Sq.nil ?_
      refine To.next ?_
      refine Wp.cond (look_t rfl) (fun hc => ?_) (fun hc => ?_)
      · replace h := cond_t hc h
        refine Wp.seq ?_
        refine Wp.reg ?_
        refine Sq.v (r_asg (look_bool false)) rfl rfl rfl ?_
        refine Sq.nil ?_
        refine To.next ?_
        refine Wp.ret ?_
        refine To.ret ?_
        refine To.bret ?_
        refine To.ret ?_
        replace h := some_in h
        subst h
        exact To.leaveG () 3 rfl (by simp) rfl (.same rfl (.same rfl (.same rfl (.same rfl (.same rfl (.same rfl (.same rfl (.same rfl (.same rfl (.same rfl (.same rfl (.same rfl (.same rfl .nil)))))))))))))
      · replace h := cond_f hc h
        refine Wp.skip ?_
        refine To.next ?_
        refine Wp.seq ?_
        refine Wp.seq ?_
        refine Wp.reg ?_
        refine Sq.v (r_move (look_t rfl)) rfl rfl rfl ?_
        refine Sq.v (r_move (look_t rfl)) rfl rfl rfl ?_
        refine Sq.g (fun hb => r_load (i := 2) (Lens.id T_cube_Cube) (r := (lget y3 k1)) ty28 (look_t rfl) rfl rfl rfl) rfl rfl rfl rfl rfl ?_
        refine Sq.g (fun hb => r_load (i := 1) (Lens.id (Vector T_api_Value 4)) (r := y4.1) ty26 (look_t rfl) rfl rfl rfl) rfl rfl rfl rfl rfl ?_
        obtain ⟨y8, hy8, h⟩ := bind_some h
        refine Sq.g (fun hb => r_call en25 (C_cube_Contains (condM_some hy8 hb)) ⟨look_tc rfl hb, look_tc rfl hb, trivial⟩) rfl rfl rfl rfl rfl ?_
        refine Sq.g (fun hb => r_not (look_tc rfl hb)) rfl rfl rfl rfl rfl ?_
        refine Sq.v (r_and (look_t rfl) (look_t rfl) (fun h => h)) rfl rfl rfl ?_
        refine Sq.nil ?_
        refine To.next ?_
        refine Wp.cond (look_t rfl) (fun hc => ?_) (fun hc => ?_)
        · replace h := cond_t hc h
          refine Wp.seq ?_
          refine Wp.reg ?_
          refine Sq.v (r_asg (look_bool false)) rfl rfl rfl ?_
          refine Sq.nil ?_
          refine To.next ?_
          refine Wp.ret ?_
          refine To.ret ?_
          refine To.bret ?_
          refine To.ret ?_
          replace h := some_in h
          subst h
          exact To.leaveG () 3 rfl (by simp) rfl (.same rfl (.same rfl (.same rfl (.same rfl (.same rfl (.same rfl (.same rfl (.same rfl (.same rfl (.same rfl (.same rfl (.same rfl (.same rfl .nil)))))))))))))
        · replace h := cond_f hc h
          refine Wp.skip ?_
          refine To.next ?_
          refine Wp.seq ?_
          refine Wp.seq ?_
          refine Wp.reg ?_
          refine Sq.v (r_move (look_t rfl)) rfl rfl rfl ?_
          refine Sq.v (r_len Try.underlying31 (look_t rfl)) rfl rfl rfl ?_
          refine Sq.v (r_move (look_int 0)) rfl rfl rfl ?_
          refine Sq.nil ?_
          refine To.next ?_
          refine Wp.block ?_
          obtain ⟨e2, hl, h⟩ := bind_some h
          refine Wp.loopG (σ := Int) (ε := (Int × Bool) ⊕ (Int × Bool × Bool)) (γ := Unit) (δ := Unit) hl (fun s2 g2 => [(0, VP.of (x0)), (1, VP.of (x1)), (4, VP.of (false)), (5, VP.of (y1)), (7, VP.eq (.pointer (some ⟨p1, 0, none⟩))), (8, VP.eq (.pointer (some ⟨p2, 0, none⟩))), (9, VP.of (y4.2.1)), (10, VP.of (y4.2.2)), (11, VP.eq (.pointer (some ⟨(ps1 12), 0, none⟩))), (12, VP.of (y7.2.1)), (13, VP.of (y7.2.2)), (24, VP.eq (slv key1 y3.length cap1)), (25, VP.of (y3.length : Int)), (26, VP.of (s1)), (27, VP.of (decide (s1 < (y3.length : Int)))), (61, VP.of (((!decide (y4.1 = y7.1)) || (y4.2.1 != y7.2.1)) || (y4.2.2 != y7.2.2))), (68, VP.of (y4.2.1 && (!y8))), (69, VP.of (y1)), (70, VP.of (y1.length : Int)), (71, VP.of (s2))]) (fun s2 g2 => [⟨some (ps1 12), .var (y7.1 : Vector T_api_Value 4)⟩, ⟨some p2, .var (y4.1 : Vector T_api_Value 4)⟩, ⟨some p1, .var ((lget y3 k1) : T_cube_Cube)⟩, ⟨key1, .row 28 (y3 : List T_cube_Cube) cap1⟩]) (fun q3 => Sum.elim (fun q3 => Exit.exit 2) (fun q3 => Exit.ret) q3) (fun q3 g2 => Sum.elim (fun q3 => [(0, VP.of (x0)), (1, VP.of (x1)), (4, VP.of (false)), (5, VP.of (y1)), (7, VP.eq (.pointer (some ⟨p1, 0, none⟩))), (8, VP.eq (.pointer (some ⟨p2, 0, none⟩))), (9, VP.of (y4.2.1)), (10, VP.of (y4.2.2)), (11, VP.eq (.pointer (some ⟨(ps1 12), 0, none⟩))), (12, VP.of (y7.2.1)), (13, VP.of (y7.2.2)), (24, VP.eq (slv key1 y3.length cap1)), (25, VP.of (y3.length : Int)), (26, VP.of (s1)), (27, VP.of (decide (s1 < (y3.length : Int)))), (61, VP.of (((!decide (y4.1 = y7.1)) || (y4.2.1 != y7.2.1)) || (y4.2.2 != y7.2.2))), (68, VP.of (y4.2.1 && (!y8))), (69, VP.of (y1)), (70, VP.of (y1.length : Int)), (71, VP.of (q3.1)), (72, VP.of (q3.2))]) (fun q3 => [(0, VP.of (x0)), (1, VP.of (x1)), (4, VP.of (false)), (5, VP.of (y1)), (7, VP.eq (.pointer (some ⟨p1, 0, none⟩))), (8, VP.eq (.pointer (some ⟨p2, 0, none⟩))), (9, VP.of (y4.2.1)), (10, VP.of (y4.2.2)), (11, VP.eq (.pointer (some ⟨(ps1 12), 0, none⟩))), (12, VP.of (y7.2.1)), (13, VP.of (y7.2.2)), (24, VP.eq (slv key1 y3.length cap1)), (25, VP.of (y3.length : Int)), (26, VP.of (s1)), (27, VP.of (decide (s1 < (y3.length : Int)))), (61, VP.of (((!decide (y4.1 = y7.1)) || (y4.2.1 != y7.2.1)) || (y4.2.2 != y7.2.2))), (68, VP.of (y4.2.1 && (!y8))), (69, VP.of (y1)), (70, VP.of (y1.length : Int)), (71, VP.of (q3.1)), (72, VP.of (q3.2.1)), (80, VP.of (q3.2.2))]) q3) (fun q3 g2 => Sum.elim (fun q3 => [⟨some (ps1 12), .var (y7.1 : Vector T_api_Value 4)⟩, ⟨some p2, .var (y4.1 : Vector T_api_Value 4)⟩, ⟨some p1, .var ((lget y3 k1) : T_cube_Cube)⟩, ⟨key1, .row 28 (y3 : List T_cube_Cube) cap1⟩]) (fun q3 => [⟨some (ps1 12), .var (y7.1 : Vector T_api_Value 4)⟩, ⟨some p2, .var (y4.1 : Vector T_api_Value 4)⟩, ⟨some p1, .var ((lget y3 k1) : T_cube_Cube)⟩, ⟨key1, .row 28 (y3 : List T_cube_Cube) cap1⟩]) q3) () rfl (.same rfl (.same rfl (.same rfl (.same rfl (.same rfl (.same rfl (.same rfl (.same rfl (.same rfl (.same rfl (.same rfl (.same rfl (.same rfl (.same rfl (.same rfl (.same rfl (.same rfl (.same rfl (.same rfl (.same rfl .nil)))))))))))))))))))) (fun s2 r h g2 => ?_) (fun g2 => ?_)
          · clear hl
            refine Wp.seq ?_
            refine Wp.reg ?_
            refine Sq.v (r_lss (look_t rfl) (look_t rfl)) rfl rfl rfl ?_
            refine Sq.nil ?_
            refine To.next ?_
            refine Wp.seq ?_
            refine Wp.cond (look_t rfl) (fun hc => ?_) (fun hc => ?_)
            · replace h := cond_t hc h
              refine Wp.skip ?_
              refine To.next ?_
              refine Wp.seq ?_
              refine Wp.block ?_
              refine Wp.seq ?_
              refine Wp.reg ?_
              obtain ⟨k3, hk3, h⟩ := bind_some h
              refine Sq.v (r_ias (k := k3) Try.underlying31 ty28 (look_t rfl) (look_t rfl) (idx_some hk3)) rfl rfl rfl ?_
              refine Sq.v (r_loadp ty28 (look_t rfl)) rfl rfl rfl ?_
              refine Sq.alloc zr28 rfl fun p3 => ?_
              refine Sq.store (i := 0) (Lens.id T_cube_Cube) (v := (lget y1 k3 : T_cube_Cube)) (b' := (lget y1 k3 : T_cube_Cube)) ty28 (look_t rfl) (look_t rfl) rfl rfl rfl ?_
              refine Sq.nil ?_
              refine To.next ?_
              refine Wp.seq ?_
              refine Wp.reg ?_
              refine Sq.v (r_move (look_t rfl)) rfl rfl rfl ?_
              refine Sq.v (r_move (look_t rfl)) rfl rfl rfl ?_
              refine Sq.g (fun hb => r_load (i := 0) (Lens.id T_cube_Cube) (r := (lget y1 k3)) ty28 (look_t rfl) rfl rfl rfl) rfl rfl rfl rfl rfl ?_
              refine Sq.g (fun hb => r_load (i := 2) (Lens.id (Vector T_api_Value 4)) (r := y4.1) ty26 (look_t rfl) rfl rfl rfl) rfl rfl rfl rfl rfl ?_
              obtain ⟨y9, hy9, h⟩ := bind_some h
              refine Sq.g (fun hb => r_call en25 (C_cube_Contains (condM_some hy9 hb)) ⟨look_tc rfl hb, look_tc rfl hb, trivial⟩) rfl rfl rfl rfl rfl ?_
              refine Sq.v (r_and (look_t rfl) (look_t rfl) (fun h => h)) rfl rfl rfl ?_
              refine Sq.nil ?_
              refine To.next ?_
              refine Wp.cond (look_t rfl) (fun hc => ?_) (fun hc => ?_)
              · replace h := cond_t hc h
                refine Wp.seq ?_
                refine Wp.reg ?_
                refine Sq.v (r_asg (look_bool false)) rfl rfl rfl ?_
                refine Sq.nil ?_
                refine To.next ?_
                refine Wp.ret ?_
                refine To.bret ?_
                refine To.ret ?_
                replace h := some_in h
                subst h
                exact To.leaveG () 1 rfl (by simp) rfl (.same rfl (.same rfl (.same rfl (.same rfl (.same rfl (.same rfl (.same rfl (.same rfl (.same rfl (.same rfl (.same rfl (.same rfl (.same rfl (.same rfl (.same rfl (.same rfl (.same rfl (.same rfl (.same rfl (.same rfl (.same rfl (.same rfl .nil))))))))))))))))))))))
              · replace h := cond_f hc h
                refine Wp.skip ?_
                refine To.bnorm ?_
                refine To.next ?_
                refine Wp.reg ?_
                refine Sq.v (r_add (look_t rfl) (look_int 1)) rfl rfl rfl ?_
                refine Sq.v (r_move (look_t rfl)) rfl rfl rfl ?_
                refine Sq.nil ?_
                replace h := some_in h
                subst h
                exact To.roundG () 1 rfl (.same rfl (.same rfl (.same rfl (.same rfl (.same rfl (.same rfl (.same rfl (.same rfl (.same rfl (.same rfl (.same rfl (.same rfl (.same rfl (.same rfl (.same rfl (.same rfl (.same rfl (.same rfl (.same rfl (.same rfl .nil))))))))))))))))))))
            · replace h := cond_f hc h
              refine Wp.exit ?_
              refine To.exit ?_
              replace h := some_in h
              subst h
              exact To.leaveG () 0 rfl (by simp) rfl (.same rfl (.same rfl (.same rfl (.same rfl (.same rfl (.same rfl (.same rfl (.same rfl (.same rfl (.same rfl (.same rfl (.same rfl (.same rfl (.same rfl (.same rfl (.same rfl (.same rfl (.same rfl (.same rfl (.same rfl (.same rfl .nil)))))))))))))))))))))
          · clear hl
            rcases e2 with e2 | e2
            · simp only [Sum.elim_inl] at h
              refine To.bexit ?_
              refine To.next ?_
              refine Wp.seq ?_
              refine Wp.reg ?_
              refine Sq.v (r_load (i := 2) (Lens.id T_cube_Cube) (r := (lget y3 k1)) ty28 (look_t rfl) rfl rfl rfl) rfl rfl rfl ?_
              refine Sq.v (r_move (look_t rfl)) rfl rfl rfl ?_
              obtain ⟨y10, hy10, h⟩ := bind_some h
              refine Sq.v (r_call en33 (C_cover_Covered hy10) ⟨look_t rfl, look_t rfl, trivial⟩) rfl rfl rfl ?_
              refine Sq.v (r_move (look_t rfl)) rfl rfl rfl ?_
              refine Sq.v (r_ext (look_t rfl) rfl) rfl rfl rfl ?_
              refine Sq.v (r_ext (look_t rfl) rfl) rfl rfl rfl ?_
              refine Sq.v (r_asg (look_t rfl)) rfl rfl rfl ?_
              refine Sq.v (r_asg (look_t rfl)) rfl rfl rfl ?_
              refine Sq.nil ?_
              refine To.next ?_
              refine Wp.seq ?_
              refine Wp.reg ?_
              refine Sq.v (r_move (look_t rfl)) rfl rfl rfl ?_
              refine Sq.v (r_move (look_t rfl)) rfl rfl rfl ?_
              refine Sq.v (r_neq (look_t rfl) (look_t rfl)) rfl rfl rfl ?_
              refine Sq.v (r_move (look_t rfl)) rfl rfl rfl ?_
              refine Sq.g (fun hb => r_move (look_t rfl)) rfl rfl rfl rfl rfl ?_
              refine Sq.g (fun hb => r_eql (look_tc rfl hb) (look_int 0)) rfl rfl rfl rfl rfl ?_
              refine Sq.g (fun hb => r_move (look_tc rfl hb)) rfl rfl rfl rfl rfl ?_
              refine Sq.gg (fun hb => r_move (look_t rfl)) rfl rfl rfl rfl rfl ?_
              refine Sq.gg (fun hb => r_move (look_t rfl)) rfl rfl rfl rfl rfl ?_
              refine Sq.gg (fun hb => r_beq Try.underlying4 (look_tc rfl hb) (look_tc rfl hb)) rfl rfl rfl rfl rfl ?_
              refine Sq.g (fun hb => r_and (look_tc rfl hb) (look_t rfl) (fun h => ⟨hb, h⟩)) rfl rfl rfl rfl rfl ?_
              refine Sq.v (r_or (look_t rfl) (look_t rfl) (fun h => h)) rfl rfl rfl ?_
              refine Sq.nil ?_
              refine To.next ?_
              refine Wp.cond (look_t rfl) (fun hc => ?_) (fun hc => ?_)
              · replace h := cond_t hc h
                refine Wp.seq ?_
                refine Wp.reg ?_
                refine Sq.v (r_asg (look_bool false)) rfl rfl rfl ?_
                refine Sq.nil ?_
                refine To.next ?_
                refine Wp.ret ?_
                refine To.bret ?_
                refine To.ret ?_
                replace h := some_in h
                subst h
                exact To.leaveG () 3 rfl (by simp) rfl (.same rfl (.same rfl (.same rfl (.same rfl (.same rfl (.same rfl (.same rfl (.same rfl (.same rfl (.same rfl (.same rfl (.same rfl (.same rfl .nil)))))))))))))
              · replace h := cond_f hc h
                refine Wp.skip ?_
                refine To.bnorm ?_
                refine To.next ?_
                refine Wp.reg ?_
                refine Sq.v (r_add (look_t rfl) (look_int 1)) rfl rfl rfl ?_
                refine Sq.v (r_move (look_t rfl)) rfl rfl rfl ?_
                refine Sq.nil ?_
                replace h := some_in h
                subst h
                exact To.roundG () 3 rfl (.same rfl (.same rfl (.same rfl (.same rfl (.same rfl (.same rfl (.same rfl .nil)))))))
            · simp only [Sum.elim_inr] at h
              refine To.bret ?_
              refine To.ret ?_
              refine To.bret ?_
              refine To.ret ?_
              replace h := some_in h
              subst h
              exact To.leaveG () 3 rfl (by simp) rfl (.same rfl (.same rfl (.same rfl (.same rfl (.same rfl (.same rfl (.same rfl (.same rfl (.same rfl (.same rfl (.same rfl (.same rfl (.same rfl .nil)))))))))))))
    · replace h := cond_f hc h
      refine Wp.exit ?_
      refine To.exit ?_
      replace h := some_in h
      subst h
      exact To.leaveG () 0 rfl (by simp) rfl (.same rfl (.same rfl (.same rfl (.same rfl (.same rfl (.same rfl (.same rfl (.same rfl .nil))))))))
  · clear hl
    rcases e1 with e1 | e1
    · simp only [Sum.elim_inl] at h
      refine To.bexit ?_
      refine To.next ?_
      refine Wp.seq ?_
      refine Wp.reg ?_
      obtain ⟨y11, hy11, h⟩ := bind_some h
      refine Sq.v (r_call en36 (C_law26_begun hy11) trivial) rfl rfl rfl ?_
      refine Sq.v (r_asg (look_t rfl)) rfl rfl rfl ?_
      refine Sq.nil ?_
      refine To.next ?_
      refine Wp.ret ?_
      replace h := some_in h
      subst h
      exact To.end1 rfl (rv_t rfl)
    · simp only [Sum.elim_inr] at h
      refine To.bret ?_
      refine To.ret ?_
      replace h := some_in h
      subst h
      exact To.end1 rfl (rv_t rfl)
end Go.Proofs.Ytabodolbdalimaa
