/-
  Printed by the decompiler (dec.py) out of the seat's translation. Each function meets its functional program. Conditions: none.
-/
import Derived.Test.YtabodolbdalimaaDl
namespace Go.Proofs.Ytabodolbdalimaa
open Go Gv
set_option linter.unusedVariables false
set_option linter.unusedSimpArgs false
set_option maxRecDepth 100000
set_option maxHeartbeats 2000000 in
theorem C_mcase_Inside {x0 : T_api_Entry} {x1 : Vector T_api_Value 4}  {r : (Vector T_api_Value 4)} (h : L_mcase_Inside x0 x1 = some r) : Meets Try.prog 47 [VP.of (x0), VP.of (x1)] (VP.of (r)) := by
  unfold L_mcase_Inside at h
  refine Meets.of Try.func47 rfl Try.ntmps47 rfl fun W A => ?_
  refine Wp.seq ?_
  refine Wp.reg ?_
  refine Sq.box (z := (x0 : T_api_Entry)) (look_t rfl) rfl fun p1 => ?_
  refine Sq.box (z := (x1 : Vector T_api_Value 4)) (look_t rfl) rfl fun p2 => ?_
  refine Sq.alloc zr26 rfl fun p3 => ?_
  refine Sq.nil ?_
  refine To.next ?_
  refine Wp.seq ?_
  refine Wp.seq ?_
  refine Wp.reg ?_
  refine Sq.v (r_fa fd91_1 (look_t rfl)) rfl rfl rfl ?_
  refine Sq.v (r_load (i := 2) ((Lens.id T_api_Entry).comp le_T_api_Entry_Matches) (r := x0.f_Matches) ty88 (look_t rfl) rfl rfl rfl) rfl rfl rfl ?_
  refine Sq.v (r_len Try.underlying88 (look_t rfl)) rfl rfl rfl ?_
  refine Sq.v (r_move (look_int 0)) rfl rfl rfl ?_
  refine Sq.nil ?_
  refine To.next ?_
  refine Wp.block ?_
  obtain ⟨e1, hl, h⟩ := bind_some h
  refine Wp.loopG (σ := Int × (Vector T_api_Value 4)) (ε := (Int × Bool × (Vector T_api_Value 4))) (γ := Unit) (δ := Unit) hl (fun s1 g1 => [(0, VP.of (x0)), (1, VP.of (x1)), (2, VP.eq (.pointer (some ⟨p1, 0, none⟩))), (3, VP.eq (.pointer (some ⟨p2, 0, none⟩))), (4, VP.eq (.pointer (some ⟨p3, 0, none⟩))), (8, VP.of (x0.f_Matches)), (9, VP.of (x0.f_Matches.length : Int)), (10, VP.of (s1.1))]) (fun s1 g1 => [⟨some p3, .var ((default : Vector T_api_Value 4) : Vector T_api_Value 4)⟩, ⟨some p2, .var (s1.2 : Vector T_api_Value 4)⟩, ⟨some p1, .var (x0 : T_api_Entry)⟩]) (fun q1 => Exit.exit 0) (fun q1 g1 => [(0, VP.of (x0)), (1, VP.of (x1)), (2, VP.eq (.pointer (some ⟨p1, 0, none⟩))), (3, VP.eq (.pointer (some ⟨p2, 0, none⟩))), (4, VP.eq (.pointer (some ⟨p3, 0, none⟩))), (8, VP.of (x0.f_Matches)), (9, VP.of (x0.f_Matches.length : Int)), (10, VP.of (q1.1)), (11, VP.of (q1.2.1))]) (fun q1 g1 => [⟨some p3, .var ((default : Vector T_api_Value 4) : Vector T_api_Value 4)⟩, ⟨some p2, .var (q1.2.2 : Vector T_api_Value 4)⟩, ⟨some p1, .var (x0 : T_api_Entry)⟩]) () rfl (.same rfl (.same rfl (.same rfl (.same rfl (.same rfl (.same rfl (.same rfl (.same rfl .nil)))))))) (fun s1 r h g1 => ?_) (fun g1 => ?_)
  · clear hl
    refine Wp.seq ?_
    refine Wp.reg ?_
    refine Sq.v (r_lss (look_t rfl) (look_t rfl)) rfl rfl rfl ?_
    refine Sq.nil ?_
    refine To.next ?_
    refine Wp.seq ?_
    refine Wp.cond (look_t rfl) (fun hc => ?_) (fun hc => ?_)
    · replace h := cond_t hc h
      refine Wp.skip ?_
      refine To.next ?_
      refine Wp.seq ?_
      refine Wp.block ?_
      refine Wp.seq ?_
      refine Wp.reg ?_
      refine Sq.v (r_move (look_t rfl)) rfl rfl rfl ?_
      obtain ⟨k1, hk1, h⟩ := bind_some h
      refine Sq.v (r_ias (k := k1) Try.underlying88 ty141 (look_t rfl) (look_t rfl) (idx_some hk1)) rfl rfl rfl ?_
      refine Sq.v (r_loadp ty141 (look_t rfl)) rfl rfl rfl ?_
      refine Sq.alloc zr141 rfl fun p4 => ?_
      refine Sq.v (r_asg (look_t rfl)) rfl rfl rfl ?_
      refine Sq.store (i := 0) (Lens.id T_api_Match) (v := (lget x0.f_Matches k1 : T_api_Match)) (b' := (lget x0.f_Matches k1 : T_api_Match)) ty141 (look_t rfl) (look_t rfl) rfl rfl rfl ?_
      refine Sq.nil ?_
      refine To.next ?_
      refine Wp.seq ?_
      refine Wp.seq ?_
      refine Wp.reg ?_
      refine Sq.v (r_move (look_t rfl)) rfl rfl rfl ?_
      refine Sq.v (r_geq (look_t rfl) (look_int 4)) rfl rfl rfl ?_
      refine Sq.v (r_move (look_t rfl)) rfl rfl rfl ?_
      refine Sq.g (fun hb => r_fa fd141_0 (look_t rfl)) rfl rfl rfl rfl rfl ?_
      refine Sq.g (fun hb => r_load (i := 0) ((Lens.id T_api_Match).comp le_T_api_Match_Present) (r := (lget x0.f_Matches k1).f_Present) ty4 (look_tc rfl hb) rfl rfl rfl) rfl rfl rfl rfl rfl ?_
      refine Sq.g (fun hb => r_not (look_tc rfl hb)) rfl rfl rfl rfl rfl ?_
      refine Sq.v (r_or (look_t rfl) (look_t rfl) (fun h => h)) rfl rfl rfl ?_
      refine Sq.nil ?_
      refine To.next ?_
      refine Wp.cond (look_t rfl) (fun hc => ?_) (fun hc => ?_)
      · replace h := cond_t hc h
        refine Wp.exit ?_
        refine To.exit ?_
        refine To.bexit ?_
        refine To.next ?_
        refine Wp.reg ?_
        refine Sq.v (r_add (look_t rfl) (look_int 1)) rfl rfl rfl ?_
        refine Sq.v (r_move (look_t rfl)) rfl rfl rfl ?_
        refine Sq.nil ?_
        replace h := some_in h
        subst h
        exact To.roundG () 1 rfl (.same rfl (.same rfl (.same rfl (.same rfl (.same rfl (.same rfl (.same rfl (.same rfl .nil))))))))
      · replace h := cond_f hc h
        refine Wp.skip ?_
        refine To.next ?_
        refine Wp.block ?_
        refine Wp.seq ?_
        refine Wp.reg ?_
        refine Sq.v (r_fa fd141_2 (look_t rfl)) rfl rfl rfl ?_
        refine Sq.v (r_load (i := 0) ((Lens.id T_api_Match).comp le_T_api_Match_Mask) (r := (lget x0.f_Matches k1).f_Mask) ty24 (look_t rfl) rfl rfl rfl) rfl rfl rfl ?_
        refine Sq.v (r_build (b := (default : T_api_Value)) rfl bu24 zr24 (.nil)) rfl rfl rfl ?_
        refine Sq.v (r_neA eqv24 rfl eqg24 rfl (look_t rfl) (look_t rfl)) rfl rfl rfl ?_
        refine Sq.v (r_asg (look_t rfl)) rfl rfl rfl ?_
        refine Sq.nil ?_
        refine To.next ?_
        obtain ⟨m1, hm1, h⟩ := bind_some h
        refine Wp.condM (γ := Unit) (fun g2 => [(0, VP.of (x0)), (1, VP.of (x1)), (2, VP.eq (.pointer (some ⟨p1, 0, none⟩))), (3, VP.eq (.pointer (some ⟨p2, 0, none⟩))), (4, VP.eq (.pointer (some ⟨p3, 0, none⟩))), (5, VP.of (s1.1)), (6, VP.eq (.pointer (some ⟨p4, 0, none⟩))), (8, VP.of (x0.f_Matches)), (9, VP.of (x0.f_Matches.length : Int)), (10, VP.of (s1.1)), (11, VP.of (decide (s1.1 < (x0.f_Matches.length : Int)))), (21, VP.of ((decide (s1.1 ≥ 4)) || (!((lget x0.f_Matches k1).f_Present)))), (26, VP.of (!decide ((lget x0.f_Matches k1).f_Mask = (default : T_api_Value))))]) (fun g2 => [⟨some p4, .var (lget x0.f_Matches k1 : T_api_Match)⟩, ⟨some p3, .var ((default : Vector T_api_Value 4) : Vector T_api_Value 4)⟩, ⟨some p2, .var (m1 : Vector T_api_Value 4)⟩, ⟨some p1, .var (x0 : T_api_Entry)⟩]) (look_t rfl) (fun g2 => ?_) (fun hm hc => ?_) (fun hm hc => ?_)
        · clear hm1
          refine To.bnorm ?_
          refine To.bnorm ?_
          refine To.next ?_
          refine Wp.reg ?_
          refine Sq.v (r_add (look_t rfl) (look_int 1)) rfl rfl rfl ?_
          refine Sq.v (r_move (look_t rfl)) rfl rfl rfl ?_
          refine Sq.nil ?_
          replace h := some_in h
          subst h
          exact To.roundG () 1 rfl (.same rfl (.same rfl (.same rfl (.same rfl (.same rfl (.same rfl (.same rfl (.same rfl .nil))))))))
        · have h := cond_t hc hm1
          obtain ⟨k2, hk2, h⟩ := bind_some h
          obtain ⟨z1, hz1, h⟩ := bind_some h
          obtain ⟨k3, hk3, h⟩ := bind_some h
          obtain ⟨z2, hz2, h⟩ := bind_some h
          obtain ⟨k4, hk4, h⟩ := bind_some h
          refine Wp.draw mixed 29 ((some 31) :: (some 32) :: (some 33) :: (some 34) :: (some 35) :: (some 36) :: (some 37) :: (some 38) :: (some 39) :: (some 40) :: (some 41) :: (some 42) :: (some 43) :: (some 44) :: (some 45) :: (some 46) :: (some 47) :: (some 48) :: (some 49) :: (some 50) :: (some 51) :: (some 52) :: (some 53) :: (some 54) :: (some 55) :: (some 56) :: (some 57) :: (some 58) :: none :: []) ([] :: [] :: [] :: [2] :: [3] :: [4] :: [] :: [6] :: [7] :: [5, 8] :: [] :: [10] :: [11] :: [9, 12] :: [] :: [14] :: [15] :: [16] :: [] :: [18] :: [19] :: [17, 20] :: [] :: [22] :: [23] :: [21, 24] :: [0] :: [26] :: [13, 27] :: []) (.val (VP.of (s1.1)) :: .val (VP.of (s1.1)) :: .val (VP.of (s1.1)) :: .val (VP.eq (.pointer (some ⟨p2, 0 + k2 * 2, none⟩))) :: .val (VP.eq (.pointer (some ⟨p2, 0 + k2 * 2 + 1, none⟩))) :: .val (VP.of ((vget s1.2 k2).f_Lo)) :: .val (VP.eq (.pointer (some ⟨p4, 0 + 3, none⟩))) :: .val (VP.eq (.pointer (some ⟨p4, 0 + 3 + 1, none⟩))) :: .val (VP.of (((lget x0.f_Matches k1).f_Mask).f_Lo)) :: .val (VP.of (((vget s1.2 k2).f_Lo) &&& ~~~(((lget x0.f_Matches k1).f_Mask).f_Lo))) :: .val (VP.eq (.pointer (some ⟨p4, 0 + 1, none⟩))) :: .val (VP.eq (.pointer (some ⟨p4, 0 + 1 + 1, none⟩))) :: .val (VP.of (((lget x0.f_Matches k1).f_Value).f_Lo)) :: .val (VP.of (z1)) :: .val (VP.of (s1.1)) :: .val (VP.eq (.pointer (some ⟨p2, 0 + k3 * 2, none⟩))) :: .val (VP.eq (.pointer (some ⟨p2, 0 + k3 * 2 + 0, none⟩))) :: .val (VP.of ((vget s1.2 k3).f_Hi)) :: .val (VP.eq (.pointer (some ⟨p4, 0 + 3, none⟩))) :: .val (VP.eq (.pointer (some ⟨p4, 0 + 3 + 0, none⟩))) :: .val (VP.of (((lget x0.f_Matches k1).f_Mask).f_Hi)) :: .val (VP.of (((vget s1.2 k3).f_Hi) &&& ~~~(((lget x0.f_Matches k1).f_Mask).f_Hi))) :: .val (VP.eq (.pointer (some ⟨p4, 0 + 1, none⟩))) :: .val (VP.eq (.pointer (some ⟨p4, 0 + 1 + 0, none⟩))) :: .val (VP.of (((lget x0.f_Matches k1).f_Value).f_Hi)) :: .val (VP.of (z2)) :: .val (VP.eq (.pointer (some ⟨p2, 0 + k4 * 2, none⟩))) :: .val (VP.eq (.pointer (some ⟨p2, 0 + k4 * 2 + 1, none⟩))) :: .sto 2 (.var (vset s1.2 k4 ({ (vget s1.2 k4) with f_Lo := z1 } : T_api_Value) : Vector T_api_Value 4)) :: []) (false :: false :: false :: false :: false :: false :: false :: false :: false :: false :: false :: false :: false :: false :: false :: false :: false :: false :: false :: false :: false :: false :: false :: false :: false :: false :: false :: false :: true :: []) (by kernel_rfl) rfl rfl rfl (fun ps1 => ⟨fun L' hL => HO.v (r_move (look_t rfl)) rfl, fun L' hL => HO.v (r_move (look_t rfl)) rfl, fun L' hL => HO.v (r_move (look_t rfl)) rfl, fun L' hL => HO.v (r_ia (k := k2) ar26 (look_t rfl) (look_t rfl) (idx_some hk2)) rfl, fun L' hL => HO.v (r_fa fd24_1 (look_t rfl)) rfl, fun L' hL => HO.v (r_load (i := 2) (((Lens.id (Vector T_api_Value 4)).comp (Lens.idx (α := T_api_Value) 4 k2 (idx_some hk2).1)).comp le_T_api_Value_Lo) (r := (vget s1.2 k2).f_Lo) ty22 (look_t rfl) (hL _ _ rfl (by kernel_rfl)) rfl rfl) rfl, fun L' hL => HO.v (r_fa fd141_2 (look_t rfl)) rfl, fun L' hL => HO.v (r_fa fd24_1 (look_t rfl)) rfl, fun L' hL => HO.v (r_load (i := 0) (((Lens.id T_api_Match).comp le_T_api_Match_Mask).comp le_T_api_Value_Lo) (r := ((lget x0.f_Matches k1).f_Mask).f_Lo) ty22 (look_t rfl) (hL _ _ rfl (by kernel_rfl)) rfl rfl) rfl, fun L' hL => HO.v (r_andNot64 (look_t rfl) (look_t rfl)) rfl, fun L' hL => HO.v (r_fa fd141_1 (look_t rfl)) rfl, fun L' hL => HO.v (r_fa fd24_1 (look_t rfl)) rfl, fun L' hL => HO.v (r_load (i := 0) (((Lens.id T_api_Match).comp le_T_api_Match_Value).comp le_T_api_Value_Lo) (r := ((lget x0.f_Matches k1).f_Value).f_Lo) ty22 (look_t rfl) (hL _ _ rfl (by kernel_rfl)) rfl rfl) rfl, fun L' hL => HO.v ((r_or64 (look_t rfl) (look_t rfl)).as (some_in hz1)) rfl, fun L' hL => HO.v (r_move (look_t rfl)) rfl, fun L' hL => HO.v (r_ia (k := k3) ar26 (look_t rfl) (look_t rfl) (idx_some hk3)) rfl, fun L' hL => HO.v (r_fa fd24_0 (look_t rfl)) rfl, fun L' hL => HO.v (r_load (i := 2) (((Lens.id (Vector T_api_Value 4)).comp (Lens.idx (α := T_api_Value) 4 k3 (idx_some hk3).1)).comp le_T_api_Value_Hi) (r := (vget s1.2 k3).f_Hi) ty22 (look_t rfl) (hL _ _ rfl (by kernel_rfl)) rfl rfl) rfl, fun L' hL => HO.v (r_fa fd141_2 (look_t rfl)) rfl, fun L' hL => HO.v (r_fa fd24_0 (look_t rfl)) rfl, fun L' hL => HO.v (r_load (i := 0) (((Lens.id T_api_Match).comp le_T_api_Match_Mask).comp le_T_api_Value_Hi) (r := ((lget x0.f_Matches k1).f_Mask).f_Hi) ty22 (look_t rfl) (hL _ _ rfl (by kernel_rfl)) rfl rfl) rfl, fun L' hL => HO.v (r_andNot64 (look_t rfl) (look_t rfl)) rfl, fun L' hL => HO.v (r_fa fd141_1 (look_t rfl)) rfl, fun L' hL => HO.v (r_fa fd24_0 (look_t rfl)) rfl, fun L' hL => HO.v (r_load (i := 0) (((Lens.id T_api_Match).comp le_T_api_Match_Value).comp le_T_api_Value_Hi) (r := ((lget x0.f_Matches k1).f_Value).f_Hi) ty22 (look_t rfl) (hL _ _ rfl (by kernel_rfl)) rfl rfl) rfl, fun L' hL => HO.v ((r_or64 (look_t rfl) (look_t rfl)).as (some_in hz2)) rfl, fun L' hL => HO.v (r_ia (k := k4) ar26 (look_t rfl) (look_t rfl) (idx_some hk4)) rfl, fun L' hL => HO.v (r_fa fd24_1 (look_t rfl)) rfl, ⟨_, _, rfl, fun L' hL => so_var (i := 2) (((Lens.id (Vector T_api_Value 4)).comp (Lens.idx (α := T_api_Value) 4 k4 (idx_some hk4).1)).comp le_T_api_Value_Lo) (v := (z1 : BitVec 64)) (b' := (vset s1.2 k4 ({ (vget s1.2 k4) with f_Lo := z1 } : T_api_Value) : Vector T_api_Value 4)) ty22 (look_t rfl) (look_t rfl) (hL _ _ rfl) rfl rfl⟩, trivial⟩) fun ps1 => ?_
          obtain ⟨k5, hk5, h⟩ := bind_some h
          refine Sq.v (r_ia (k := k5) ar26 (look_t rfl) (look_t rfl) (idx_some hk5)) rfl rfl rfl ?_
          refine Sq.v (r_fa fd24_0 (look_t rfl)) rfl rfl rfl ?_
          obtain ⟨z3, hz3, h⟩ := bind_some h
          refine Sq.store (i := 2) (((Lens.id (Vector T_api_Value 4)).comp (Lens.idx (α := T_api_Value) 4 k5 (idx_some hk5).1)).comp le_T_api_Value_Hi) (v := (z2 : BitVec 64)) (b' := (z3 : Vector T_api_Value 4)) ty22 (look_t rfl) (look_t rfl) rfl rfl (some_in hz3) ?_
          refine Sq.nil ?_
          replace h := some_in h
          subst h
          exact To.meet 0 rfl (.same rfl (.same rfl (.same rfl (.same rfl (.same rfl (.same rfl (.same rfl (.same rfl (.same rfl (.same rfl (.same rfl (.same rfl (.same rfl .nil))))))))))))) (hm ())
        · have h := cond_f hc hm1
          refine Wp.seq ?_
          refine Wp.reg ?_
          refine Sq.v (r_fa fd141_3 (look_t rfl)) rfl rfl rfl ?_
          refine Sq.v (r_load (i := 0) ((Lens.id T_api_Match).comp le_T_api_Match_Prefix) (r := (lget x0.f_Matches k1).f_Prefix) ty3 (look_t rfl) rfl rfl rfl) rfl rfl rfl ?_
          refine Sq.v (r_gtr (look_t rfl) (look_int 0)) rfl rfl rfl ?_
          refine Sq.v (r_move (look_t rfl)) rfl rfl rfl ?_
          refine Sq.g (fun hb => r_fa fd141_3 (look_t rfl)) rfl rfl rfl rfl rfl ?_
          refine Sq.g (fun hb => r_load (i := 0) ((Lens.id T_api_Match).comp le_T_api_Match_Prefix) (r := (lget x0.f_Matches k1).f_Prefix) ty3 (look_tc rfl hb) rfl rfl rfl) rfl rfl rfl rfl rfl ?_
          refine Sq.g (fun hb => r_leq (look_tc rfl hb) (look_int 32)) rfl rfl rfl rfl rfl ?_
          obtain ⟨z4, hz4, h⟩ := bind_some h
          refine Sq.v ((r_and (look_t rfl) (look_t rfl) (fun h => h)).as (some_in hz4)) rfl rfl rfl ?_
          refine Sq.v (r_asg (look_t rfl)) rfl rfl rfl ?_
          refine Sq.nil ?_
          refine To.next ?_
          obtain ⟨m2, hm2, h⟩ := bind_some h
          refine Wp.condM (γ := Unit) (fun g3 => [(0, VP.of (x0)), (1, VP.of (x1)), (2, VP.eq (.pointer (some ⟨p1, 0, none⟩))), (3, VP.eq (.pointer (some ⟨p2, 0, none⟩))), (4, VP.eq (.pointer (some ⟨p3, 0, none⟩))), (5, VP.of (s1.1)), (6, VP.eq (.pointer (some ⟨p4, 0, none⟩))), (8, VP.of (x0.f_Matches)), (9, VP.of (x0.f_Matches.length : Int)), (10, VP.of (s1.1)), (11, VP.of (decide (s1.1 < (x0.f_Matches.length : Int)))), (21, VP.of ((decide (s1.1 ≥ 4)) || (!((lget x0.f_Matches k1).f_Present)))), (26, VP.of (!decide ((lget x0.f_Matches k1).f_Mask = (default : T_api_Value)))), (61, VP.of (z4))]) (fun g3 => [⟨some p4, .var (lget x0.f_Matches k1 : T_api_Match)⟩, ⟨some p3, .var ((default : Vector T_api_Value 4) : Vector T_api_Value 4)⟩, ⟨some p2, .var (m2 : Vector T_api_Value 4)⟩, ⟨some p1, .var (x0 : T_api_Entry)⟩]) (look_t rfl) (fun g3 => ?_) (fun hm hc => ?_) (fun hm hc => ?_)
          · clear hm2
            replace h := some_in h
            subst h
            exact To.meet 0 rfl (.same rfl (.same rfl (.same rfl (.same rfl (.same rfl (.same rfl (.same rfl (.same rfl (.same rfl (.same rfl (.same rfl (.same rfl (.same rfl .nil))))))))))))) (hm ())
          · have h := cond_t hc hm2
            obtain ⟨k6, hk6, h⟩ := bind_some h
            obtain ⟨z5, hz5, h⟩ := bind_some h
            obtain ⟨z6, hz6, h⟩ := bind_some h
            obtain ⟨k7, hk7, h⟩ := bind_some h
            refine Wp.draw mixed 18 ((some 70) :: (some 71) :: (some 72) :: (some 73) :: (some 74) :: (some 75) :: (some 76) :: (some 77) :: (some 78) :: (some 79) :: (some 80) :: (some 81) :: (some 82) :: (some 83) :: (some 84) :: (some 85) :: (some 86) :: (some 87) :: []) ([] :: [] :: [1] :: [2] :: [] :: [4] :: [5] :: [6] :: [] :: [8] :: [9] :: [10] :: [11] :: [12] :: [7, 13] :: [3, 14] :: [15] :: [0] :: []) (.val (VP.of (s1.1)) :: .val (VP.eq (.pointer (some ⟨p4, 0 + 1, none⟩))) :: .val (VP.eq (.pointer (some ⟨p4, 0 + 1 + 1, none⟩))) :: .val (VP.of (((lget x0.f_Matches k1).f_Value).f_Lo)) :: .val (VP.of (s1.1)) :: .val (VP.eq (.pointer (some ⟨p2, 0 + k6 * 2, none⟩))) :: .val (VP.eq (.pointer (some ⟨p2, 0 + k6 * 2 + 1, none⟩))) :: .val (VP.of ((vget s1.2 k6).f_Lo)) :: .val (VP.eq (.pointer (some ⟨p4, 0 + 5, none⟩))) :: .val (VP.of ((lget x0.f_Matches k1).f_Prefix)) :: .val (VP.of (w64 (32 - ((lget x0.f_Matches k1).f_Prefix)))) :: .val (VP.of (BitVec.ofInt 64 (w64 (32 - ((lget x0.f_Matches k1).f_Prefix))))) :: .val (VP.of (z5)) :: .val (VP.of (z5 - (1#64))) :: .val (VP.of (((vget s1.2 k6).f_Lo) &&& (z5 - (1#64)))) :: .val (VP.of (z6)) :: .val (VP.of ({ (default : T_api_Value) with f_Lo := z6 } : T_api_Value)) :: .val (VP.eq (.pointer (some ⟨p2, 0 + k7 * 2, none⟩))) :: []) (false :: false :: false :: false :: false :: false :: false :: false :: false :: false :: false :: false :: false :: false :: false :: false :: false :: false :: []) (by kernel_rfl) rfl rfl rfl (fun ps2 => ⟨fun L' hL => HO.v (r_move (look_t rfl)) rfl, fun L' hL => HO.v (r_fa fd141_1 (look_t rfl)) rfl, fun L' hL => HO.v (r_fa fd24_1 (look_t rfl)) rfl, fun L' hL => HO.v (r_load (i := 0) (((Lens.id T_api_Match).comp le_T_api_Match_Value).comp le_T_api_Value_Lo) (r := ((lget x0.f_Matches k1).f_Value).f_Lo) ty22 (look_t rfl) (hL _ _ rfl rfl) rfl rfl) rfl, fun L' hL => HO.v (r_move (look_t rfl)) rfl, fun L' hL => HO.v (r_ia (k := k6) ar26 (look_t rfl) (look_t rfl) (idx_some hk6)) rfl, fun L' hL => HO.v (r_fa fd24_1 (look_t rfl)) rfl, fun L' hL => HO.v (r_load (i := 2) (((Lens.id (Vector T_api_Value 4)).comp (Lens.idx (α := T_api_Value) 4 k6 (idx_some hk6).1)).comp le_T_api_Value_Lo) (r := (vget s1.2 k6).f_Lo) ty22 (look_t rfl) (hL _ _ rfl rfl) rfl rfl) rfl, fun L' hL => HO.v (r_fa fd141_3 (look_t rfl)) rfl, fun L' hL => HO.v (r_load (i := 0) ((Lens.id T_api_Match).comp le_T_api_Match_Prefix) (r := (lget x0.f_Matches k1).f_Prefix) ty3 (look_t rfl) (hL _ _ rfl rfl) rfl rfl) rfl, fun L' hL => HO.v (r_sub (look_int 32) (look_t rfl)) rfl, fun L' hL => HO.v (r_ci64 Try.underlying3 Try.underlying117 (look_t rfl)) rfl, fun L' hL => HO.v ((r_shl64 (look_u64 1 rfl) (look_t rfl)).as (some_in hz5)) rfl, fun L' hL => HO.v (r_sub64 (look_t rfl) (look_u64 1 rfl)) rfl, fun L' hL => HO.v (r_and64 (look_t rfl) (look_t rfl)) rfl, fun L' hL => HO.v ((r_or64 (look_t rfl) (look_t rfl)).as (some_in hz6)) rfl, fun L' hL => HO.v (r_build (b := ({ (default : T_api_Value) with f_Lo := z6 } : T_api_Value)) rfl bu24 zr24 (.cons le_T_api_Value_Lo rfl (look_t rfl) rfl (.nil))) rfl, fun L' hL => HO.v (r_ia (k := k7) ar26 (look_t rfl) (look_t rfl) (idx_some hk7)) rfl, trivial⟩) fun ps2 => ?_
            obtain ⟨z7, hz7, h⟩ := bind_some h
            refine Sq.store (i := 2) ((Lens.id (Vector T_api_Value 4)).comp (Lens.idx (α := T_api_Value) 4 k7 (idx_some hk7).1)) (v := (({ (default : T_api_Value) with f_Lo := z6 } : T_api_Value) : T_api_Value)) (b' := (z7 : Vector T_api_Value 4)) ty24 (look_t rfl) (look_t rfl) rfl rfl (some_in hz7) ?_
            refine Sq.nil ?_
            replace h := some_in h
            subst h
            exact To.meet 0 rfl (.same rfl (.same rfl (.same rfl (.same rfl (.same rfl (.same rfl (.same rfl (.same rfl (.same rfl (.same rfl (.same rfl (.same rfl (.same rfl (.same rfl .nil)))))))))))))) (hm ())
          · have h := cond_f hc hm2
            refine Wp.reg ?_
            refine Sq.v (r_move (look_t rfl)) rfl rfl rfl ?_
            refine Sq.v (r_fa fd141_1 (look_t rfl)) rfl rfl rfl ?_
            refine Sq.v (r_load (i := 0) ((Lens.id T_api_Match).comp le_T_api_Match_Value) (r := (lget x0.f_Matches k1).f_Value) ty24 (look_t rfl) rfl rfl rfl) rfl rfl rfl ?_
            obtain ⟨k8, hk8, h⟩ := bind_some h
            refine Sq.v (r_ia (k := k8) ar26 (look_t rfl) (look_t rfl) (idx_some hk8)) rfl rfl rfl ?_
            refine Sq.store (i := 2) ((Lens.id (Vector T_api_Value 4)).comp (Lens.idx (α := T_api_Value) 4 k8 (idx_some hk8).1)) (v := ((lget x0.f_Matches k1).f_Value : T_api_Value)) (b' := (vset s1.2 k8 ((lget x0.f_Matches k1).f_Value) : Vector T_api_Value 4)) ty24 (look_t rfl) (look_t rfl) rfl rfl rfl ?_
            refine Sq.nil ?_
            replace h := some_in h
            subst h
            exact To.meet 0 rfl (.same rfl (.same rfl (.same rfl (.same rfl (.same rfl (.same rfl (.same rfl (.same rfl (.same rfl (.same rfl (.same rfl (.same rfl (.same rfl (.same rfl .nil)))))))))))))) (hm ())
    · replace h := cond_f hc h
      refine Wp.exit ?_
      refine To.exit ?_
      replace h := some_in h
      subst h
      exact To.leaveG () 0 rfl (by simp) rfl (.same rfl (.same rfl (.same rfl (.same rfl (.same rfl (.same rfl (.same rfl (.same rfl (.same rfl .nil)))))))))
  · clear hl
    refine To.bexit ?_
    refine To.next ?_
    refine Wp.seq ?_
    refine Wp.reg ?_
    refine Sq.v (r_load (i := 1) (Lens.id (Vector T_api_Value 4)) (r := e1.2.2) ty26 (look_t rfl) rfl rfl rfl) rfl rfl rfl ?_
    refine Sq.store (i := 0) (Lens.id (Vector T_api_Value 4)) (v := (e1.2.2 : Vector T_api_Value 4)) (b' := (e1.2.2 : Vector T_api_Value 4)) ty26 (look_t rfl) (look_t rfl) rfl rfl rfl ?_
    refine Sq.nil ?_
    refine To.next ?_
    refine Wp.ret ?_
    replace h := some_in h
    subst h
    exact To.end1 rfl (rv_c (i := 0) ty26 rfl rfl)
set_option maxHeartbeats 2000000 in
theorem C_cube_combined {x0 : Vector T_api_Value 4} {x1 : Vector T_api_Value 4} {x2 : T_api_Value → T_api_Value → Option T_api_Value}  {r : (Vector T_api_Value 4)} (h : L_cube_combined x0 x1 x2 = some r) : Meets Try.prog 52 [VP.of (x0), VP.of (x1), VP.fn2 Try.prog x2] (VP.of (r)) := by
  unfold L_cube_combined at h
  refine Meets.of Try.func52 rfl Try.ntmps52 rfl fun W A => ?_
  refine Wp.seq ?_
  refine Wp.reg ?_
  refine Sq.box (z := (x0 : Vector T_api_Value 4)) (look_t rfl) rfl fun p1 => ?_
  refine Sq.box (z := (x1 : Vector T_api_Value 4)) (look_t rfl) rfl fun p2 => ?_
  refine Sq.alloc zr26 rfl fun p3 => ?_
  refine Sq.nil ?_
  refine To.next ?_
  refine Wp.seq ?_
  refine Wp.seq ?_
  refine Wp.reg ?_
  refine Sq.v (r_move (look_int 0)) rfl rfl rfl ?_
  refine Sq.nil ?_
  refine To.next ?_
  refine Wp.block ?_
  obtain ⟨e1, hl, h⟩ := bind_some h
  refine Wp.loopG (σ := Int × (Vector T_api_Value 4)) (ε := (Int × Bool × (Vector T_api_Value 4))) (γ := Unit) (δ := Unit) hl (fun s1 g1 => [(0, VP.of (x0)), (1, VP.of (x1)), (2, VP.fn2 Try.prog x2), (3, VP.eq (.pointer (some ⟨p1, 0, none⟩))), (4, VP.eq (.pointer (some ⟨p2, 0, none⟩))), (6, VP.eq (.pointer (some ⟨p3, 0, none⟩))), (8, VP.of (s1.1))]) (fun s1 g1 => [⟨some p3, .var ((default : Vector T_api_Value 4) : Vector T_api_Value 4)⟩, ⟨some p2, .var (x1 : Vector T_api_Value 4)⟩, ⟨some p1, .var (s1.2 : Vector T_api_Value 4)⟩]) (fun q1 => Exit.exit 0) (fun q1 g1 => [(0, VP.of (x0)), (1, VP.of (x1)), (2, VP.fn2 Try.prog x2), (3, VP.eq (.pointer (some ⟨p1, 0, none⟩))), (4, VP.eq (.pointer (some ⟨p2, 0, none⟩))), (6, VP.eq (.pointer (some ⟨p3, 0, none⟩))), (8, VP.of (q1.1)), (9, VP.of (q1.2.1))]) (fun q1 g1 => [⟨some p3, .var ((default : Vector T_api_Value 4) : Vector T_api_Value 4)⟩, ⟨some p2, .var (x1 : Vector T_api_Value 4)⟩, ⟨some p1, .var (q1.2.2 : Vector T_api_Value 4)⟩]) () rfl (.same rfl (.same rfl (.same rfl (.same rfl (.same rfl (.same rfl (.same rfl .nil))))))) (fun s1 r h g1 => ?_) (fun g1 => ?_)
  · clear hl
    refine Wp.seq ?_
    refine Wp.reg ?_
    refine Sq.v (r_lss (look_t rfl) (look_int 4)) rfl rfl rfl ?_
    refine Sq.nil ?_
    refine To.next ?_
    refine Wp.seq ?_
    refine Wp.cond (look_t rfl) (fun hc => ?_) (fun hc => ?_)
    · replace h := cond_t hc h
      refine Wp.skip ?_
      refine To.next ?_
      refine Wp.seq ?_
      refine Wp.block ?_
      refine Wp.seq ?_
      refine Wp.reg ?_
      refine Sq.v (r_move (look_t rfl)) rfl rfl rfl ?_
      refine Sq.v (r_asg (look_t rfl)) rfl rfl rfl ?_
      refine Sq.nil ?_
      refine To.next ?_
      obtain ⟨k1, hk1, h⟩ := bind_some h
      obtain ⟨k2, hk2, h⟩ := bind_some h
      obtain ⟨y1, hy1, h⟩ := bind_some h
      obtain ⟨k3, hk3, h⟩ := bind_some h
      refine Wp.draw mixed 10 [some 11, some 12, some 13, some 14, some 15, some 16, some 17, some 18, some 19, some 20] [[], [], [], [2], [3], [], [5], [6], [1, 4, 7], [0]] [.val (VP.of (s1.1)), .val (VP.fn2 Try.prog x2), .val (VP.of (s1.1)), .val (VP.eq (.pointer (some ⟨p1, 0 + k1 * 2, none⟩))), .val (VP.of (vget s1.2 k1)), .val (VP.of (s1.1)), .val (VP.eq (.pointer (some ⟨p2, 0 + k2 * 2, none⟩))), .val (VP.of (vget x1 k2)), .val (VP.of (y1)), .val (VP.eq (.pointer (some ⟨p1, 0 + k3 * 2, none⟩)))] [false, false, false, false, false, false, false, false, false, false] (by kernel_rfl) rfl rfl rfl (fun ps1 => ⟨fun L' hL => HO.v (r_move (look_t rfl)) rfl, fun L' hL => HO.v (r_move (look_t rfl)) rfl, fun L' hL => HO.v (r_move (look_t rfl)) rfl, fun L' hL => HO.v (r_ia (k := k1) ar26 (look_t rfl) (look_t rfl) (idx_some hk1)) rfl, fun L' hL => HO.v (r_load (i := 2) ((Lens.id (Vector T_api_Value 4)).comp (Lens.idx (α := T_api_Value) 4 k1 (idx_some hk1).1)) (r := vget s1.2 k1) ty24 (look_t rfl) (hL _ _ rfl rfl) rfl rfl) rfl, fun L' hL => HO.v (r_move (look_t rfl)) rfl, fun L' hL => HO.v (r_ia (k := k2) ar26 (look_t rfl) (look_t rfl) (idx_some hk2)) rfl, fun L' hL => HO.v (r_load (i := 1) ((Lens.id (Vector T_api_Value 4)).comp (Lens.idx (α := T_api_Value) 4 k2 (idx_some hk2).1)) (r := vget x1 k2) ty24 (look_t rfl) (hL _ _ rfl rfl) rfl rfl) rfl, fun L' hL => HO.v (r_callF2 (look_t rfl) (look_t rfl) (look_t rfl) hy1) rfl, fun L' hL => HO.v (r_ia (k := k3) ar26 (look_t rfl) (look_t rfl) (idx_some hk3)) rfl, trivial⟩) fun ps1 => ?_
      refine Sq.store (i := 2) ((Lens.id (Vector T_api_Value 4)).comp (Lens.idx (α := T_api_Value) 4 k3 (idx_some hk3).1)) (v := (y1 : T_api_Value)) (b' := (vset s1.2 k3 y1 : Vector T_api_Value 4)) ty24 (look_t rfl) (look_t rfl) rfl rfl rfl ?_
      refine Sq.nil ?_
      refine To.bnorm ?_
      refine To.next ?_
      refine Wp.reg ?_
      refine Sq.v (r_add (look_t rfl) (look_int 1)) rfl rfl rfl ?_
      refine Sq.v (r_move (look_t rfl)) rfl rfl rfl ?_
      refine Sq.nil ?_
      replace h := some_in h
      subst h
      exact To.roundG () 0 rfl (.same rfl (.same rfl (.same rfl (.same rfl (.same rfl (.same rfl (.same rfl .nil)))))))
    · replace h := cond_f hc h
      refine Wp.exit ?_
      refine To.exit ?_
      replace h := some_in h
      subst h
      exact To.leaveG () 0 rfl (by simp) rfl (.same rfl (.same rfl (.same rfl (.same rfl (.same rfl (.same rfl (.same rfl (.same rfl .nil))))))))
  · clear hl
    refine To.bexit ?_
    refine To.next ?_
    refine Wp.seq ?_
    refine Wp.reg ?_
    refine Sq.v (r_load (i := 2) (Lens.id (Vector T_api_Value 4)) (r := e1.2.2) ty26 (look_t rfl) rfl rfl rfl) rfl rfl rfl ?_
    refine Sq.store (i := 0) (Lens.id (Vector T_api_Value 4)) (v := (e1.2.2 : Vector T_api_Value 4)) (b' := (e1.2.2 : Vector T_api_Value 4)) ty26 (look_t rfl) (look_t rfl) rfl rfl rfl ?_
    refine Sq.nil ?_
    refine To.next ?_
    refine Wp.ret ?_
    replace h := some_in h
    subst h
    exact To.end1 rfl (rv_c (i := 0) ty26 rfl rfl)
set_option maxHeartbeats 2000000 in
theorem C_value_Compare {x0 : T_api_Value} {x1 : T_api_Value}  {r : Int} (h : L_value_Compare x0 x1 = some r) : Meets Try.prog 111 [VP.of (x0), VP.of (x1)] (VP.of (r)) := by
  unfold L_value_Compare at h
  refine Meets.of Try.func111 rfl Try.ntmps111 rfl fun W A => ?_
  refine Wp.seq ?_
  refine Wp.reg ?_
  refine Sq.box (z := (x0 : T_api_Value)) (look_t rfl) rfl fun p1 => ?_
  refine Sq.box (z := (x1 : T_api_Value)) (look_t rfl) rfl fun p2 => ?_
  refine Sq.v (r_asg (look_int 0)) rfl rfl rfl ?_
  refine Sq.nil ?_
  refine To.next ?_
  refine Wp.seq ?_
  refine Wp.block ?_
  refine Wp.seq ?_
  refine Wp.reg ?_
  refine Sq.v (r_load (i := 1) (Lens.id T_api_Value) (r := x0) ty24 (look_t rfl) rfl rfl rfl) rfl rfl rfl ?_
  refine Sq.v (r_load (i := 0) (Lens.id T_api_Value) (r := x1) ty24 (look_t rfl) rfl rfl rfl) rfl rfl rfl ?_
  refine Sq.v (r_eqA eqv24 rfl eqg24 rfl (look_t rfl) (look_t rfl)) rfl rfl rfl ?_
  refine Sq.v (r_asg (look_t rfl)) rfl rfl rfl ?_
  refine Sq.nil ?_
  refine To.next ?_
  refine Wp.cond (look_t rfl) (fun hc => ?_) (fun hc => ?_)
  · replace h := cond_t hc h
    refine Wp.seq ?_
    refine Wp.reg ?_
    refine Sq.v (r_asg (look_int 0)) rfl rfl rfl ?_
    refine Sq.nil ?_
    refine To.next ?_
    refine Wp.ret ?_
    refine To.bret ?_
    refine To.ret ?_
    replace h := some_in h
    subst h
    exact To.end1 rfl (rv_t rfl)
  · replace h := cond_f hc h
    refine Wp.seq ?_
    refine Wp.reg ?_
    refine Sq.v (r_fa fd24_0 (look_t rfl)) rfl rfl rfl ?_
    refine Sq.v (r_load (i := 1) ((Lens.id T_api_Value).comp le_T_api_Value_Hi) (r := x0.f_Hi) ty22 (look_t rfl) rfl rfl rfl) rfl rfl rfl ?_
    refine Sq.v (r_fa fd24_0 (look_t rfl)) rfl rfl rfl ?_
    refine Sq.v (r_load (i := 0) ((Lens.id T_api_Value).comp le_T_api_Value_Hi) (r := x1.f_Hi) ty22 (look_t rfl) rfl rfl rfl) rfl rfl rfl ?_
    refine Sq.v (r_lss64 (look_t rfl) (look_t rfl)) rfl rfl rfl ?_
    refine Sq.v (r_move (look_t rfl)) rfl rfl rfl ?_
    refine Sq.g (fun hb => r_fa fd24_0 (look_t rfl)) rfl rfl rfl rfl rfl ?_
    refine Sq.g (fun hb => r_load (i := 1) ((Lens.id T_api_Value).comp le_T_api_Value_Hi) (r := x0.f_Hi) ty22 (look_tc rfl hb) rfl rfl rfl) rfl rfl rfl rfl rfl ?_
    refine Sq.g (fun hb => r_fa fd24_0 (look_t rfl)) rfl rfl rfl rfl rfl ?_
    refine Sq.g (fun hb => r_load (i := 0) ((Lens.id T_api_Value).comp le_T_api_Value_Hi) (r := x1.f_Hi) ty22 (look_tc rfl hb) rfl rfl rfl) rfl rfl rfl rfl rfl ?_
    refine Sq.g (fun hb => r_eql64 (look_tc rfl hb) (look_tc rfl hb)) rfl rfl rfl rfl rfl ?_
    refine Sq.g (fun hb => r_move (look_tc rfl hb)) rfl rfl rfl rfl rfl ?_
    refine Sq.gg (fun hb => r_fa fd24_1 (look_t rfl)) rfl rfl rfl rfl rfl ?_
    refine Sq.gg (fun hb => r_load (i := 1) ((Lens.id T_api_Value).comp le_T_api_Value_Lo) (r := x0.f_Lo) ty22 (look_tc rfl hb) rfl rfl rfl) rfl rfl rfl rfl rfl ?_
    refine Sq.gg (fun hb => r_fa fd24_1 (look_t rfl)) rfl rfl rfl rfl rfl ?_
    refine Sq.gg (fun hb => r_load (i := 0) ((Lens.id T_api_Value).comp le_T_api_Value_Lo) (r := x1.f_Lo) ty22 (look_tc rfl hb) rfl rfl rfl) rfl rfl rfl rfl rfl ?_
    refine Sq.gg (fun hb => r_lss64 (look_tc rfl hb) (look_tc rfl hb)) rfl rfl rfl rfl rfl ?_
    refine Sq.g (fun hb => r_and (look_tc rfl hb) (look_t rfl) (fun h => ⟨hb, h⟩)) rfl rfl rfl rfl rfl ?_
    obtain ⟨z1, hz1, h⟩ := bind_some h
    refine Sq.v ((r_or (look_t rfl) (look_t rfl) (fun h => h)).as (some_in hz1)) rfl rfl rfl ?_
    refine Sq.v (r_asg (look_t rfl)) rfl rfl rfl ?_
    refine Sq.nil ?_
    refine To.next ?_
    refine Wp.cond (look_t rfl) (fun hc => ?_) (fun hc => ?_)
    · replace h := cond_t hc h
      refine Wp.seq ?_
      refine Wp.reg ?_
      refine Sq.v (r_asg (look_int (-1))) rfl rfl rfl ?_
      refine Sq.nil ?_
      refine To.next ?_
      refine Wp.ret ?_
      refine To.bret ?_
      refine To.ret ?_
      replace h := some_in h
      subst h
      exact To.end1 rfl (rv_t rfl)
    · replace h := cond_f hc h
      refine Wp.skip ?_
      refine To.bnorm ?_
      refine To.next ?_
      refine Wp.seq ?_
      refine Wp.reg ?_
      refine Sq.v (r_asg (look_int 1)) rfl rfl rfl ?_
      refine Sq.nil ?_
      refine To.next ?_
      refine Wp.ret ?_
      replace h := some_in h
      subst h
      exact To.end1 rfl (rv_t rfl)
set_option maxHeartbeats 2000000 in
theorem C_value_Or {x0 : T_api_Value} {x1 : T_api_Value}  {r : T_api_Value} (h : L_value_Or x0 x1 = some r) : Meets Try.prog 58 [VP.of (x0), VP.of (x1)] (VP.of (r)) := by
  unfold L_value_Or at h
  refine Meets.of Try.func58 rfl Try.ntmps58 rfl fun W A => ?_
  refine Wp.seq ?_
  refine Wp.reg ?_
  refine Sq.box (z := (x0 : T_api_Value)) (look_t rfl) rfl fun p1 => ?_
  refine Sq.box (z := (x1 : T_api_Value)) (look_t rfl) rfl fun p2 => ?_
  refine Sq.alloc zr24 rfl fun p3 => ?_
  refine Sq.nil ?_
  refine To.next ?_
  refine Wp.seq ?_
  refine Wp.reg ?_
  refine Sq.v (r_fa fd24_0 (look_t rfl)) rfl rfl rfl ?_
  refine Sq.v (r_load (i := 2) ((Lens.id T_api_Value).comp le_T_api_Value_Hi) (r := x0.f_Hi) ty22 (look_t rfl) rfl rfl rfl) rfl rfl rfl ?_
  refine Sq.v (r_fa fd24_0 (look_t rfl)) rfl rfl rfl ?_
  refine Sq.v (r_load (i := 1) ((Lens.id T_api_Value).comp le_T_api_Value_Hi) (r := x1.f_Hi) ty22 (look_t rfl) rfl rfl rfl) rfl rfl rfl ?_
  refine Sq.v (r_or64 (look_t rfl) (look_t rfl)) rfl rfl rfl ?_
  refine Sq.v (r_fa fd24_1 (look_t rfl)) rfl rfl rfl ?_
  refine Sq.v (r_load (i := 2) ((Lens.id T_api_Value).comp le_T_api_Value_Lo) (r := x0.f_Lo) ty22 (look_t rfl) rfl rfl rfl) rfl rfl rfl ?_
  refine Sq.v (r_fa fd24_1 (look_t rfl)) rfl rfl rfl ?_
  refine Sq.v (r_load (i := 1) ((Lens.id T_api_Value).comp le_T_api_Value_Lo) (r := x1.f_Lo) ty22 (look_t rfl) rfl rfl rfl) rfl rfl rfl ?_
  refine Sq.v (r_or64 (look_t rfl) (look_t rfl)) rfl rfl rfl ?_
  obtain ⟨z1, hz1, h⟩ := bind_some h
  refine Sq.v ((r_build (b := { f_Hi := x0.f_Hi ||| x1.f_Hi, f_Lo := x0.f_Lo ||| x1.f_Lo : T_api_Value }) rfl bu24 zr24 (.cons le_T_api_Value_Hi rfl (look_t rfl) rfl (.cons le_T_api_Value_Lo rfl (look_t rfl) rfl (.nil)))).as (some_in hz1)) rfl rfl rfl ?_
  refine Sq.store (i := 0) (Lens.id T_api_Value) (v := (z1 : T_api_Value)) (b' := (z1 : T_api_Value)) ty24 (look_t rfl) (look_t rfl) rfl rfl rfl ?_
  refine Sq.nil ?_
  refine To.next ?_
  refine Wp.ret ?_
  replace h := some_in h
  subst h
  exact To.end1 rfl (rv_c (i := 0) ty24 rfl rfl)
set_option maxHeartbeats 2000000 in
theorem C_cube_place {x0 : Int}  {r : Int × Int} (h : L_cube_place x0 = some r) : Meets Try.prog 59 [VP.of (x0)] (VP.tup [VP.of (r.1), VP.of (r.2)]) := by
  unfold L_cube_place at h
  refine Meets.of Try.func59 rfl Try.ntmps59 rfl fun W A => ?_
  refine Wp.seq ?_
  refine Wp.reg ?_
  refine Sq.v (r_asg (look_int 0)) rfl rfl rfl ?_
  refine Sq.v (r_asg (look_int 0)) rfl rfl rfl ?_
  refine Sq.nil ?_
  refine To.next ?_
  refine Wp.seq ?_
  refine Wp.reg ?_
  refine Sq.v (r_move (look_t rfl)) rfl rfl rfl ?_
  obtain ⟨y1, hy1, h⟩ := bind_some h
  refine Sq.v (r_quo (look_t rfl) (look_int 128) (divM_some hy1)) rfl rfl rfl ?_
  refine Sq.v (r_move (look_t rfl)) rfl rfl rfl ?_
  obtain ⟨y2, hy2, h⟩ := bind_some h
  refine Sq.v (r_rem (look_t rfl) (look_int 128) (modM_some hy2)) rfl rfl rfl ?_
  refine Sq.v (r_sub (look_int 127) (look_t rfl)) rfl rfl rfl ?_
  refine Sq.v (r_asg (look_t rfl)) rfl rfl rfl ?_
  refine Sq.v (r_asg (look_t rfl)) rfl rfl rfl ?_
  refine Sq.nil ?_
  refine To.next ?_
  refine Wp.ret ?_
  replace h := some_in h
  subst h
  exact To.end2 rfl (rv_t rfl) (rv_t rfl)
set_option maxHeartbeats 2000000 in
theorem C_value_Of {x0 : BitVec 64}  {r : T_api_Value} (h : L_value_Of x0 = some r) : Meets Try.prog 61 [VP.of (x0)] (VP.of (r)) := by
  unfold L_value_Of at h
  refine Meets.of Try.func61 rfl Try.ntmps61 rfl fun W A => ?_
  refine Wp.seq ?_
  refine Wp.reg ?_
  refine Sq.alloc zr24 rfl fun p1 => ?_
  refine Sq.nil ?_
  refine To.next ?_
  refine Wp.seq ?_
  refine Wp.reg ?_
  refine Sq.v (r_move (look_t rfl)) rfl rfl rfl ?_
  refine Sq.v (r_build (b := ({ (default : T_api_Value) with f_Lo := x0 } : T_api_Value)) rfl bu24 zr24 (.cons le_T_api_Value_Lo rfl (look_t rfl) rfl (.nil))) rfl rfl rfl ?_
  refine Sq.store (i := 0) (Lens.id T_api_Value) (v := (({ (default : T_api_Value) with f_Lo := x0 } : T_api_Value) : T_api_Value)) (b' := (({ (default : T_api_Value) with f_Lo := x0 } : T_api_Value) : T_api_Value)) ty24 (look_t rfl) (look_t rfl) rfl rfl rfl ?_
  refine Sq.nil ?_
  refine To.next ?_
  refine Wp.ret ?_
  replace h := some_in h
  subst h
  exact To.end1 rfl (rv_c (i := 0) ty24 rfl rfl)
end Go.Proofs.Ytabodolbdalimaa
