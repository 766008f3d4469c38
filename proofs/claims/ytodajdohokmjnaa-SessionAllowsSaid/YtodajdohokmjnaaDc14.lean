/-
  Printed by the decompiler (dec.py) out of the seat's translation. Each function meets its functional program. Conditions: none.
-/
import Derived.Test.YtodajdohokmjnaaDc0
import Derived.Test.YtodajdohokmjnaaDc2
import Derived.Test.YtodajdohokmjnaaDc4
import Derived.Test.YtodajdohokmjnaaDc5
import Derived.Test.YtodajdohokmjnaaDc6
import Derived.Test.YtodajdohokmjnaaDc10
import Derived.Test.YtodajdohokmjnaaDc11
import Derived.Test.YtodajdohokmjnaaDc12
namespace Go.Proofs.Ytodajdohokmjnaa
open Go Gv
set_option linter.unusedVariables false
set_option linter.unusedSimpArgs false
set_option maxRecDepth 100000
set_option maxHeartbeats 2000000 in
theorem C_law20_SessionAllows {x0 : List (BitVec 8)} {x1 : List T_law20_Op} {x2 : Int} {x3 : Int} {x4 : T_api_Value}  {r : Bool} (h : L_law20_SessionAllows x0 x1 x2 x3 x4 = some r) : Meets Try.prog 5 [VP.of (x0), VP.of (x1), VP.of (x2), VP.of (x3), VP.of (x4)] (VP.of (r)) := by
  unfold L_law20_SessionAllows at h
  refine Meets.of Try.func5 rfl Try.ntmps5 rfl fun W A => ?_
  refine Wp.seq ?_
  refine Wp.reg ?_
  refine Sq.box (z := (x4 : T_api_Value)) (look_t rfl) rfl fun p1 => ?_
  refine Sq.v (r_asg (look_bool false)) rfl rfl rfl ?_
  refine Sq.nil ?_
  refine To.next ?_
  refine Wp.seq ?_
  refine Wp.reg ?_
  refine Sq.v (r_move (look_t rfl)) rfl rfl rfl ?_
  obtain ⟨y1, hy1, h⟩ := bind_some h
  refine Sq.callO (Lin := []) (Lr := [⟨some p1, .var (x4 : T_api_Value)⟩]) en12 (C_mcase_New hy1) ⟨look_t rfl, look_int 120, trivial⟩ rfl fun q1 => ?_
  refine Sq.bring 0 rfl ?_
  obtain ⟨y2, hy2, h⟩ := bind_some h
  refine Sq.callO (Lin := [⟨some q1, .var (y1 : T_mcase_Codes)⟩]) (Lr := [⟨some p1, .var (x4 : T_api_Value)⟩]) en13 (C_mcase_Codes_Schema hy2) ⟨look_t rfl, trivial⟩ rfl fun q2 => ?_
  refine Sq.alloc zr33 rfl fun p2 => ?_
  refine Sq.store (i := 0) (Lens.id T_api_Schema) (v := (y2.1 : T_api_Schema)) (b' := (y2.1 : T_api_Schema)) ty33 (look_t rfl) (look_t rfl) rfl rfl rfl ?_
  refine Sq.nil ?_
  refine To.next ?_
  refine Wp.seq ?_
  refine Wp.reg ?_
  refine Sq.v (r_load (i := 0) (Lens.id T_api_Schema) (r := y2.1) ty33 (look_t rfl) rfl rfl rfl) rfl rfl rfl ?_
  refine Sq.v (r_move (look_t rfl)) rfl rfl rfl ?_
  obtain ⟨y3, hy3, h⟩ := bind_some h
  refine Sq.v (r_call en21 (C_law20_play hy3) ⟨look_t rfl, look_t rfl, trivial⟩) rfl rfl rfl ?_
  refine Sq.alloc zr40 rfl fun p3 => ?_
  refine Sq.store (i := 0) (Lens.id T_session_State) (v := (y3 : T_session_State)) (b' := (y3 : T_session_State)) ty40 (look_t rfl) (look_t rfl) rfl rfl rfl ?_
  refine Sq.nil ?_
  refine To.next ?_
  refine Wp.seq ?_
  refine Wp.reg ?_
  refine Sq.v (r_load (i := 0) (Lens.id T_session_State) (r := y3) ty40 (look_t rfl) rfl rfl rfl) rfl rfl rfl ?_
  obtain ⟨y4, hy4, h⟩ := bind_some h
  refine Sq.v (r_call en24 (C_law20_mirror hy4) ⟨look_t rfl, trivial⟩) rfl rfl rfl ?_
  refine Sq.alloc zr44 rfl fun p4 => ?_
  refine Sq.store (i := 0) (Lens.id T_ref20_State) (v := (y4 : T_ref20_State)) (b' := (y4 : T_ref20_State)) ty44 (look_t rfl) (look_t rfl) rfl rfl rfl ?_
  refine Sq.nil ?_
  refine To.next ?_
  refine Wp.seq ?_
  refine Wp.seq ?_
  refine Wp.reg ?_
  refine Sq.v (r_move (look_t rfl)) rfl rfl rfl ?_
  refine Sq.v (r_bsl (r := [x2, 0, 1, 2, 3, 4]) Try.underlying64 ty3 zr3 rfl rfl (.cons (by simp) (look_t rfl) (.cons (by simp) (look_int 0) (.cons (by simp) (look_int 1) (.cons (by simp) (look_int 2) (.cons (by simp) (look_int 3) (.cons (by simp) (look_int 4) (.nil)))))))) rfl rfl rfl ?_
  refine Sq.v (r_len Try.underlying64 (look_t rfl)) rfl rfl rfl ?_
  refine Sq.v (r_move (look_int 0)) rfl rfl rfl ?_
  refine Sq.nil ?_
  refine To.next ?_
  refine Wp.block ?_
  obtain ⟨e1, hl, h⟩ := bind_some h
  refine Wp.loopG (σ := Int) (ε := (Int × Bool) ⊕ (Int × Int × Int × Bool × (List Int) × Int × Int × Bool × (List T_api_Value) × Int × Int × Bool)) (γ := Unit) (δ := Unit) hl (fun s1 g1 => [(0, VP.of (x0)), (1, VP.of (x1)), (2, VP.of (x2)), (3, VP.of (x3)), (4, VP.of (x4)), (9, VP.eq (.pointer (some ⟨p1, 0, none⟩))), (10, VP.of (false)), (11, VP.eq (.pointer (some ⟨p2, 0, none⟩))), (12, VP.eq (.pointer (some ⟨p3, 0, none⟩))), (13, VP.eq (.pointer (some ⟨p4, 0, none⟩))), (33, VP.of ([x2, 0, 1, 2, 3, 4])), (34, VP.of ([x2, 0, 1, 2, 3, 4].length : Int)), (35, VP.of (s1))]) (fun s1 g1 => [⟨some p4, .var (y4 : T_ref20_State)⟩, ⟨some p3, .var (y3 : T_session_State)⟩, ⟨some p2, .var (y2.1 : T_api_Schema)⟩, ⟨some q1, .var (y2.2 : T_mcase_Codes)⟩, ⟨some p1, .var (x4 : T_api_Value)⟩]) (fun q3 => Sum.elim (fun q3 => Exit.exit 0) (fun q3 => Exit.ret) q3) (fun q3 g1 => Sum.elim (fun q3 => [(0, VP.of (x0)), (1, VP.of (x1)), (2, VP.of (x2)), (3, VP.of (x3)), (4, VP.of (x4)), (9, VP.eq (.pointer (some ⟨p1, 0, none⟩))), (10, VP.of (false)), (11, VP.eq (.pointer (some ⟨p2, 0, none⟩))), (12, VP.eq (.pointer (some ⟨p3, 0, none⟩))), (13, VP.eq (.pointer (some ⟨p4, 0, none⟩))), (33, VP.of ([x2, 0, 1, 2, 3, 4])), (34, VP.of ([x2, 0, 1, 2, 3, 4].length : Int)), (35, VP.of (q3.1)), (36, VP.of (q3.2))]) (fun q3 => [(0, VP.of (x0)), (1, VP.of (x1)), (2, VP.of (x2)), (3, VP.of (x3)), (4, VP.of (x4)), (9, VP.eq (.pointer (some ⟨p1, 0, none⟩))), (10, VP.of (false)), (11, VP.eq (.pointer (some ⟨p2, 0, none⟩))), (12, VP.eq (.pointer (some ⟨p3, 0, none⟩))), (13, VP.eq (.pointer (some ⟨p4, 0, none⟩))), (15, VP.of (q3.1)), (17, VP.of (q3.2.1)), (33, VP.of ([x2, 0, 1, 2, 3, 4])), (34, VP.of ([x2, 0, 1, 2, 3, 4].length : Int)), (35, VP.of (q3.2.2.1)), (36, VP.of (q3.2.2.2.1)), (40, VP.of (q3.2.2.2.2.1)), (41, VP.of (q3.2.2.2.2.2.1)), (42, VP.of (q3.2.2.2.2.2.2.1)), (43, VP.of (q3.2.2.2.2.2.2.2.1)), (53, VP.of (q3.2.2.2.2.2.2.2.2.1)), (54, VP.of (q3.2.2.2.2.2.2.2.2.2.1)), (55, VP.of (q3.2.2.2.2.2.2.2.2.2.2.1)), (56, VP.of (q3.2.2.2.2.2.2.2.2.2.2.2))]) q3) (fun q3 g1 => Sum.elim (fun q3 => [⟨some p4, .var (y4 : T_ref20_State)⟩, ⟨some p3, .var (y3 : T_session_State)⟩, ⟨some p2, .var (y2.1 : T_api_Schema)⟩, ⟨some q1, .var (y2.2 : T_mcase_Codes)⟩, ⟨some p1, .var (x4 : T_api_Value)⟩]) (fun q3 => [⟨some p4, .var (y4 : T_ref20_State)⟩, ⟨some p3, .var (y3 : T_session_State)⟩, ⟨some p2, .var (y2.1 : T_api_Schema)⟩, ⟨some q1, .var (y2.2 : T_mcase_Codes)⟩, ⟨some p1, .var (x4 : T_api_Value)⟩]) q3) () rfl (.same rfl (.same rfl (.same rfl (.same rfl (.same rfl (.same rfl (.same rfl (.same rfl (.same rfl (.same rfl (.same rfl (.same rfl (.same rfl .nil))))))))))))) (fun s1 r h g1 => ?_) (fun g1 => ?_)
  · clear hl
    refine Wp.seq ?_
    refine Wp.reg ?_
    refine Sq.v (r_lss (look_t rfl) (look_t rfl)) rfl rfl rfl ?_
    refine Sq.nil ?_
    refine To.next ?_
    refine Wp.seq ?_
    refine Wp.cond (look_t rfl) (fun hc => ?_) (fun hc => ?_)
    · replace h := cond_t hc h
      refine Wp.skip ?_
      refine To.next ?_
      refine Wp.seq ?_
      refine Wp.block ?_
      refine Wp.seq ?_
      refine Wp.reg ?_
      obtain ⟨k1, hk1, h⟩ := bind_some h
      refine Sq.v (r_ias (k := k1) Try.underlying64 ty3 (look_t rfl) (look_t rfl) (idx_some hk1)) rfl rfl rfl ?_
      refine Sq.v (r_loadp ty3 (look_t rfl)) rfl rfl rfl ?_
      refine Sq.v (r_asg (look_t rfl)) rfl rfl rfl ?_
      refine Sq.nil ?_
      refine To.next ?_
      refine Wp.seq ?_
      refine Wp.reg ?_
      refine Sq.v (r_move (look_t rfl)) rfl rfl rfl ?_
      refine Sq.v (r_bsl (r := [x3, 1, 2, 7]) Try.underlying64 ty3 zr3 rfl rfl (.cons (by simp) (look_t rfl) (.cons (by simp) (look_int 1) (.cons (by simp) (look_int 2) (.cons (by simp) (look_int 7) (.nil)))))) rfl rfl rfl ?_
      refine Sq.v (r_len Try.underlying64 (look_t rfl)) rfl rfl rfl ?_
      refine Sq.v (r_move (look_int 0)) rfl rfl rfl ?_
      refine Sq.nil ?_
      refine To.next ?_
      refine Wp.block ?_
      obtain ⟨e2, hl, h⟩ := bind_some h
      refine Wp.loopG (σ := Int) (ε := (Int × Bool) ⊕ (Int × Int × Bool × (List T_api_Value) × Int × Int × Bool)) (γ := Unit) (δ := Unit) hl (fun s2 g2 => [(0, VP.of (x0)), (1, VP.of (x1)), (2, VP.of (x2)), (3, VP.of (x3)), (4, VP.of (x4)), (9, VP.eq (.pointer (some ⟨p1, 0, none⟩))), (10, VP.of (false)), (11, VP.eq (.pointer (some ⟨p2, 0, none⟩))), (12, VP.eq (.pointer (some ⟨p3, 0, none⟩))), (13, VP.eq (.pointer (some ⟨p4, 0, none⟩))), (15, VP.of (lget [x2, 0, 1, 2, 3, 4] k1)), (33, VP.of ([x2, 0, 1, 2, 3, 4])), (34, VP.of ([x2, 0, 1, 2, 3, 4].length : Int)), (35, VP.of (s1)), (36, VP.of (decide (s1 < ([x2, 0, 1, 2, 3, 4].length : Int)))), (40, VP.of ([x3, 1, 2, 7])), (41, VP.of ([x3, 1, 2, 7].length : Int)), (42, VP.of (s2))]) (fun s2 g2 => [⟨some p4, .var (y4 : T_ref20_State)⟩, ⟨some p3, .var (y3 : T_session_State)⟩, ⟨some p2, .var (y2.1 : T_api_Schema)⟩, ⟨some q1, .var (y2.2 : T_mcase_Codes)⟩, ⟨some p1, .var (x4 : T_api_Value)⟩]) (fun q4 => Sum.elim (fun q4 => Exit.exit 2) (fun q4 => Exit.ret) q4) (fun q4 g2 => Sum.elim (fun q4 => [(0, VP.of (x0)), (1, VP.of (x1)), (2, VP.of (x2)), (3, VP.of (x3)), (4, VP.of (x4)), (9, VP.eq (.pointer (some ⟨p1, 0, none⟩))), (10, VP.of (false)), (11, VP.eq (.pointer (some ⟨p2, 0, none⟩))), (12, VP.eq (.pointer (some ⟨p3, 0, none⟩))), (13, VP.eq (.pointer (some ⟨p4, 0, none⟩))), (15, VP.of (lget [x2, 0, 1, 2, 3, 4] k1)), (33, VP.of ([x2, 0, 1, 2, 3, 4])), (34, VP.of ([x2, 0, 1, 2, 3, 4].length : Int)), (35, VP.of (s1)), (36, VP.of (decide (s1 < ([x2, 0, 1, 2, 3, 4].length : Int)))), (40, VP.of ([x3, 1, 2, 7])), (41, VP.of ([x3, 1, 2, 7].length : Int)), (42, VP.of (q4.1)), (43, VP.of (q4.2))]) (fun q4 => [(0, VP.of (x0)), (1, VP.of (x1)), (2, VP.of (x2)), (3, VP.of (x3)), (4, VP.of (x4)), (9, VP.eq (.pointer (some ⟨p1, 0, none⟩))), (10, VP.of (false)), (11, VP.eq (.pointer (some ⟨p2, 0, none⟩))), (12, VP.eq (.pointer (some ⟨p3, 0, none⟩))), (13, VP.eq (.pointer (some ⟨p4, 0, none⟩))), (15, VP.of (lget [x2, 0, 1, 2, 3, 4] k1)), (17, VP.of (q4.1)), (33, VP.of ([x2, 0, 1, 2, 3, 4])), (34, VP.of ([x2, 0, 1, 2, 3, 4].length : Int)), (35, VP.of (s1)), (36, VP.of (decide (s1 < ([x2, 0, 1, 2, 3, 4].length : Int)))), (40, VP.of ([x3, 1, 2, 7])), (41, VP.of ([x3, 1, 2, 7].length : Int)), (42, VP.of (q4.2.1)), (43, VP.of (q4.2.2.1)), (53, VP.of (q4.2.2.2.1)), (54, VP.of (q4.2.2.2.2.1)), (55, VP.of (q4.2.2.2.2.2.1)), (56, VP.of (q4.2.2.2.2.2.2))]) q4) (fun q4 g2 => Sum.elim (fun q4 => [⟨some p4, .var (y4 : T_ref20_State)⟩, ⟨some p3, .var (y3 : T_session_State)⟩, ⟨some p2, .var (y2.1 : T_api_Schema)⟩, ⟨some q1, .var (y2.2 : T_mcase_Codes)⟩, ⟨some p1, .var (x4 : T_api_Value)⟩]) (fun q4 => [⟨some p4, .var (y4 : T_ref20_State)⟩, ⟨some p3, .var (y3 : T_session_State)⟩, ⟨some p2, .var (y2.1 : T_api_Schema)⟩, ⟨some q1, .var (y2.2 : T_mcase_Codes)⟩, ⟨some p1, .var (x4 : T_api_Value)⟩]) q4) () rfl (.same rfl (.same rfl (.same rfl (.same rfl (.same rfl (.same rfl (.same rfl (.same rfl (.same rfl (.same rfl (.same rfl (.same rfl (.same rfl (.same rfl (.same rfl (.same rfl (.same rfl (.same rfl .nil)))))))))))))))))) (fun s2 r h g2 => ?_) (fun g2 => ?_)
      · clear hl
        refine Wp.seq ?_
        refine Wp.reg ?_
        refine Sq.v (r_lss (look_t rfl) (look_t rfl)) rfl rfl rfl ?_
        refine Sq.nil ?_
        refine To.next ?_
        refine Wp.seq ?_
        refine Wp.cond (look_t rfl) (fun hc => ?_) (fun hc => ?_)
        · replace h := cond_t hc h
          refine Wp.skip ?_
          refine To.next ?_
          refine Wp.seq ?_
          refine Wp.block ?_
          refine Wp.seq ?_
          refine Wp.reg ?_
          obtain ⟨k2, hk2, h⟩ := bind_some h
          refine Sq.v (r_ias (k := k2) Try.underlying64 ty3 (look_t rfl) (look_t rfl) (idx_some hk2)) rfl rfl rfl ?_
          refine Sq.v (r_loadp ty3 (look_t rfl)) rfl rfl rfl ?_
          refine Sq.v (r_asg (look_t rfl)) rfl rfl rfl ?_
          refine Sq.nil ?_
          refine To.next ?_
          refine Wp.seq ?_
          refine Wp.seq ?_
          refine Wp.reg ?_
          refine Sq.v (r_load (i := 4) (Lens.id T_api_Value) (r := x4) ty47 (look_t rfl) rfl rfl rfl) rfl rfl rfl ?_
          refine Sq.v (r_fa fd47_1 (look_t rfl)) rfl rfl rfl ?_
          refine Sq.v (r_load (i := 4) ((Lens.id T_api_Value).comp le_T_api_Value_Lo) (r := x4.f_Lo) ty45 (look_t rfl) rfl rfl rfl) rfl rfl rfl ?_
          obtain ⟨y5, hy5, h⟩ := bind_some h
          refine Sq.v (r_rem64 (look_t rfl) (look_u64 6 rfl) (uremM_some hy5)) rfl rfl rfl ?_
          refine Sq.v (r_build (b := ({ (default : T_api_Value) with f_Lo := y5 } : T_api_Value)) rfl bu47 zr47 (.cons le_T_api_Value_Lo rfl (look_t rfl) rfl (.nil))) rfl rfl rfl ?_
          refine Sq.v (r_build (b := ({ (default : T_api_Value) with f_Lo := 5#64 } : T_api_Value)) rfl bu47 zr47 (.cons le_T_api_Value_Lo rfl (look_u64 5 rfl) rfl (.nil))) rfl rfl rfl ?_
          refine Sq.v (r_build (b := ({ (default : T_api_Value) with f_Lo := 4#64 } : T_api_Value)) rfl bu47 zr47 (.cons le_T_api_Value_Lo rfl (look_u64 4 rfl) rfl (.nil))) rfl rfl rfl ?_
          obtain ⟨z1, hz1, h⟩ := bind_some h
          refine Sq.v ((r_bsl (r := [x4, ({ (default : T_api_Value) with f_Lo := y5 } : T_api_Value), ({ (default : T_api_Value) with f_Lo := 5#64 } : T_api_Value), ({ (default : T_api_Value) with f_Lo := 4#64 } : T_api_Value)]) Try.underlying72 ty47 zr47 rfl rfl (.cons (by simp) (look_t rfl) (.cons (by simp) (look_t rfl) (.cons (by simp) (look_t rfl) (.cons (by simp) (look_t rfl) (.nil)))))).as (some_in hz1)) rfl rfl rfl ?_
          refine Sq.v (r_len Try.underlying72 (look_t rfl)) rfl rfl rfl ?_
          refine Sq.v (r_move (look_int 0)) rfl rfl rfl ?_
          refine Sq.nil ?_
          refine To.next ?_
          refine Wp.block ?_
          obtain ⟨e3, hl, h⟩ := bind_some h
          refine Wp.loopG (σ := Int) (ε := (Int × Bool) ⊕ (Int × Bool × Bool)) (γ := Unit) (δ := Unit) hl (fun s3 g3 => [(0, VP.of (x0)), (1, VP.of (x1)), (2, VP.of (x2)), (3, VP.of (x3)), (4, VP.of (x4)), (9, VP.eq (.pointer (some ⟨p1, 0, none⟩))), (10, VP.of (false)), (11, VP.eq (.pointer (some ⟨p2, 0, none⟩))), (12, VP.eq (.pointer (some ⟨p3, 0, none⟩))), (13, VP.eq (.pointer (some ⟨p4, 0, none⟩))), (15, VP.of (lget [x2, 0, 1, 2, 3, 4] k1)), (17, VP.of (lget [x3, 1, 2, 7] k2)), (33, VP.of ([x2, 0, 1, 2, 3, 4])), (34, VP.of ([x2, 0, 1, 2, 3, 4].length : Int)), (35, VP.of (s1)), (36, VP.of (decide (s1 < ([x2, 0, 1, 2, 3, 4].length : Int)))), (40, VP.of ([x3, 1, 2, 7])), (41, VP.of ([x3, 1, 2, 7].length : Int)), (42, VP.of (s2)), (43, VP.of (decide (s2 < ([x3, 1, 2, 7].length : Int)))), (53, VP.of (z1)), (54, VP.of (z1.length : Int)), (55, VP.of (s3))]) (fun s3 g3 => [⟨some p4, .var (y4 : T_ref20_State)⟩, ⟨some p3, .var (y3 : T_session_State)⟩, ⟨some p2, .var (y2.1 : T_api_Schema)⟩, ⟨some q1, .var (y2.2 : T_mcase_Codes)⟩, ⟨some p1, .var (x4 : T_api_Value)⟩]) (fun q5 => Sum.elim (fun q5 => Exit.exit 4) (fun q5 => Exit.ret) q5) (fun q5 g3 => Sum.elim (fun q5 => [(0, VP.of (x0)), (1, VP.of (x1)), (2, VP.of (x2)), (3, VP.of (x3)), (4, VP.of (x4)), (9, VP.eq (.pointer (some ⟨p1, 0, none⟩))), (10, VP.of (false)), (11, VP.eq (.pointer (some ⟨p2, 0, none⟩))), (12, VP.eq (.pointer (some ⟨p3, 0, none⟩))), (13, VP.eq (.pointer (some ⟨p4, 0, none⟩))), (15, VP.of (lget [x2, 0, 1, 2, 3, 4] k1)), (17, VP.of (lget [x3, 1, 2, 7] k2)), (33, VP.of ([x2, 0, 1, 2, 3, 4])), (34, VP.of ([x2, 0, 1, 2, 3, 4].length : Int)), (35, VP.of (s1)), (36, VP.of (decide (s1 < ([x2, 0, 1, 2, 3, 4].length : Int)))), (40, VP.of ([x3, 1, 2, 7])), (41, VP.of ([x3, 1, 2, 7].length : Int)), (42, VP.of (s2)), (43, VP.of (decide (s2 < ([x3, 1, 2, 7].length : Int)))), (53, VP.of (z1)), (54, VP.of (z1.length : Int)), (55, VP.of (q5.1)), (56, VP.of (q5.2))]) (fun q5 => [(0, VP.of (x0)), (1, VP.of (x1)), (2, VP.of (x2)), (3, VP.of (x3)), (4, VP.of (x4)), (9, VP.eq (.pointer (some ⟨p1, 0, none⟩))), (10, VP.of (false)), (11, VP.eq (.pointer (some ⟨p2, 0, none⟩))), (12, VP.eq (.pointer (some ⟨p3, 0, none⟩))), (13, VP.eq (.pointer (some ⟨p4, 0, none⟩))), (15, VP.of (lget [x2, 0, 1, 2, 3, 4] k1)), (17, VP.of (lget [x3, 1, 2, 7] k2)), (33, VP.of ([x2, 0, 1, 2, 3, 4])), (34, VP.of ([x2, 0, 1, 2, 3, 4].length : Int)), (35, VP.of (s1)), (36, VP.of (decide (s1 < ([x2, 0, 1, 2, 3, 4].length : Int)))), (40, VP.of ([x3, 1, 2, 7])), (41, VP.of ([x3, 1, 2, 7].length : Int)), (42, VP.of (s2)), (43, VP.of (decide (s2 < ([x3, 1, 2, 7].length : Int)))), (53, VP.of (z1)), (54, VP.of (z1.length : Int)), (55, VP.of (q5.1)), (56, VP.of (q5.2.1)), (80, VP.of (q5.2.2))]) q5) (fun q5 g3 => Sum.elim (fun q5 => [⟨some p4, .var (y4 : T_ref20_State)⟩, ⟨some p3, .var (y3 : T_session_State)⟩, ⟨some p2, .var (y2.1 : T_api_Schema)⟩, ⟨some q1, .var (y2.2 : T_mcase_Codes)⟩, ⟨some p1, .var (x4 : T_api_Value)⟩]) (fun q5 => [⟨some p4, .var (y4 : T_ref20_State)⟩, ⟨some p3, .var (y3 : T_session_State)⟩, ⟨some p2, .var (y2.1 : T_api_Schema)⟩, ⟨some q1, .var (y2.2 : T_mcase_Codes)⟩, ⟨some p1, .var (x4 : T_api_Value)⟩]) q5) () rfl (.same rfl (.same rfl (.same rfl (.same rfl (.same rfl (.same rfl (.same rfl (.same rfl (.same rfl (.same rfl (.same rfl (.same rfl (.same rfl (.same rfl (.same rfl (.same rfl (.same rfl (.same rfl (.same rfl (.same rfl (.same rfl (.same rfl (.same rfl .nil))))))))))))))))))))))) (fun s3 r h g3 => ?_) (fun g3 => ?_)
          · clear hl
            refine Wp.seq ?_
            refine Wp.reg ?_
            refine Sq.v (r_lss (look_t rfl) (look_t rfl)) rfl rfl rfl ?_
            refine Sq.nil ?_
            refine To.next ?_
            refine Wp.seq ?_
            refine Wp.cond (look_t rfl) (fun hc => ?_) (fun hc => ?_)
            · replace h := cond_t hc h
              refine Wp.skip ?_
              refine To.next ?_
              refine Wp.seq ?_
              refine Wp.block ?_
              refine Wp.seq ?_
              refine Wp.reg ?_
              obtain ⟨k3, hk3, h⟩ := bind_some h
              refine Sq.v (r_ias (k := k3) Try.underlying72 ty47 (look_t rfl) (look_t rfl) (idx_some hk3)) rfl rfl rfl ?_
              refine Sq.v (r_loadp ty47 (look_t rfl)) rfl rfl rfl ?_
              refine Sq.alloc zr47 rfl fun p5 => ?_
              refine Sq.store (i := 0) (Lens.id T_api_Value) (v := (lget z1 k3 : T_api_Value)) (b' := (lget z1 k3 : T_api_Value)) ty47 (look_t rfl) (look_t rfl) rfl rfl rfl ?_
              refine Sq.nil ?_
              refine To.next ?_
              refine Wp.seq ?_
              obtain ⟨y6, hy6, h⟩ := bind_some h
              obtain ⟨y7, hy7, h⟩ := bind_some h
              obtain ⟨y8, hy8, h⟩ := bind_some h
              obtain ⟨y9, hy9, h⟩ := bind_some h
              refine Wp.draw mixed 22 ((some 59) :: (some 60) :: (some 61) :: (some 62) :: (some 63) :: (some 64) :: (some 65) :: (some 66) :: (some 67) :: (some 68) :: (some 69) :: (some 70) :: (some 71) :: (some 72) :: (some 73) :: (some 74) :: (some 75) :: (some 76) :: (some 77) :: (some 78) :: (some 79) :: (some 80) :: []) ([] :: [] :: [] :: [] :: [0, 1, 2, 3] :: [] :: [] :: [] :: [] :: [5, 6, 7, 8] :: [4, 9] :: [10] :: [11] :: [11] :: [11] :: [11, 12, 13, 14] :: [11] :: [11] :: [11] :: [11, 16, 17, 18] :: [11, 15, 19] :: [11, 20] :: []) (.val (VP.of (y3)) :: .val (VP.of (lget [x2, 0, 1, 2, 3, 4] k1)) :: .val (VP.of (lget [x3, 1, 2, 7] k2)) :: .val (VP.of (lget z1 k3)) :: .val (VP.of (y6)) :: .val (VP.of (y4)) :: .val (VP.of (lget [x2, 0, 1, 2, 3, 4] k1)) :: .val (VP.of (lget [x3, 1, 2, 7] k2)) :: .val (VP.of (lget z1 k3)) :: .val (VP.of (y7)) :: .val (VP.of (y6 != y7)) :: .val (VP.of (y6 != y7)) :: .val (VP.cond ((y6 != y7) = false) (VP.of (y3))) :: .val (VP.cond ((y6 != y7) = false) (VP.of (lget [x2, 0, 1, 2, 3, 4] k1))) :: .val (VP.cond ((y6 != y7) = false) (VP.of (lget [x3, 1, 2, 7] k2))) :: .val (VP.cond ((y6 != y7) = false) (VP.of (y8))) :: .val (VP.cond ((y6 != y7) = false) (VP.of (y4))) :: .val (VP.cond ((y6 != y7) = false) (VP.of (lget [x2, 0, 1, 2, 3, 4] k1))) :: .val (VP.cond ((y6 != y7) = false) (VP.of (lget [x3, 1, 2, 7] k2))) :: .val (VP.cond ((y6 != y7) = false) (VP.of (y9))) :: .val (VP.cond ((y6 != y7) = false) (VP.of (y8 != y9))) :: .val (VP.of ((y6 != y7) || (y8 != y9))) :: []) (false :: false :: false :: false :: false :: false :: false :: false :: false :: false :: false :: false :: false :: false :: false :: false :: false :: false :: false :: false :: false :: false :: []) (by kernel_rfl) rfl rfl rfl (fun ps1 => ⟨fun L' hL => HO.v (r_load (i := 2) (Lens.id T_session_State) (r := y3) ty40 (look_t rfl) (hL _ _ rfl rfl) rfl rfl) rfl, fun L' hL => HO.v (r_move (look_t rfl)) rfl, fun L' hL => HO.v (r_move (look_t rfl)) rfl, fun L' hL => HO.v (r_load (i := 0) (Lens.id T_api_Value) (r := (lget z1 k3)) ty47 (look_t rfl) (hL _ _ rfl rfl) rfl rfl) rfl, fun L' hL => HO.v (r_call en25 (C_session_Allow hy6) ⟨look_t rfl, look_t rfl, look_t rfl, look_t rfl, trivial⟩) rfl, fun L' hL => HO.v (r_load (i := 1) (Lens.id T_ref20_State) (r := y4) ty44 (look_t rfl) (hL _ _ rfl rfl) rfl rfl) rfl, fun L' hL => HO.v (r_move (look_t rfl)) rfl, fun L' hL => HO.v (r_move (look_t rfl)) rfl, fun L' hL => HO.v (r_load (i := 0) (Lens.id T_api_Value) (r := (lget z1 k3)) ty47 (look_t rfl) (hL _ _ rfl rfl) rfl rfl) rfl, fun L' hL => HO.v (r_call en26 (C_ref20_Allow hy7) ⟨look_t rfl, look_t rfl, look_t rfl, look_t rfl, trivial⟩) rfl, fun L' hL => HO.v (r_neq (look_t rfl) (look_t rfl)) rfl, fun L' hL => HO.v (r_move (look_t rfl)) rfl, fun L' hL => HO.g (fun hb => r_load (i := 2) (Lens.id T_session_State) (r := y3) ty40 (look_t rfl) (hL _ _ rfl rfl) rfl rfl) rfl rfl rfl, fun L' hL => HO.g (fun hb => r_move (look_t rfl)) rfl rfl rfl, fun L' hL => HO.g (fun hb => r_move (look_t rfl)) rfl rfl rfl, fun L' hL => HO.g (fun hb => r_call en27 (C_session_Check (condM_some hy8 hb)) ⟨look_tc rfl hb, look_tc rfl hb, look_tc rfl hb, trivial⟩) rfl rfl rfl, fun L' hL => HO.g (fun hb => r_load (i := 1) (Lens.id T_ref20_State) (r := y4) ty44 (look_t rfl) (hL _ _ rfl rfl) rfl rfl) rfl rfl rfl, fun L' hL => HO.g (fun hb => r_move (look_t rfl)) rfl rfl rfl, fun L' hL => HO.g (fun hb => r_move (look_t rfl)) rfl rfl rfl, fun L' hL => HO.g (fun hb => r_call en28 (C_ref20_Check (condM_some hy9 hb)) ⟨look_tc rfl hb, look_tc rfl hb, look_tc rfl hb, trivial⟩) rfl rfl rfl, fun L' hL => HO.g (fun hb => r_neq (look_tc rfl hb) (look_tc rfl hb)) rfl rfl rfl, fun L' hL => HO.v (r_or (look_t rfl) (look_t rfl) (fun h => h)) rfl, trivial⟩) fun ps1 => ?_
              refine Sq.nil ?_
              refine To.next ?_
              refine Wp.cond (look_t rfl) (fun hc => ?_) (fun hc => ?_)
              · replace h := cond_t hc h
                refine Wp.seq ?_
                refine Wp.reg ?_
                refine Sq.v (r_asg (look_bool false)) rfl rfl rfl ?_
                refine Sq.nil ?_
                refine To.next ?_
                refine Wp.ret ?_
                refine To.bret ?_
                refine To.ret ?_
                replace h := some_in h
                subst h
                exact To.leaveG () 1 rfl (by simp) rfl (.same rfl (.same rfl (.same rfl (.same rfl (.same rfl (.same rfl (.same rfl (.same rfl (.same rfl (.same rfl (.same rfl (.same rfl (.same rfl (.same rfl (.same rfl (.same rfl (.same rfl (.same rfl (.same rfl (.same rfl (.same rfl (.same rfl (.same rfl (.same rfl (.same rfl .nil)))))))))))))))))))))))))
              · replace h := cond_f hc h
                refine Wp.skip ?_
                refine To.bnorm ?_
                refine To.next ?_
                refine Wp.reg ?_
                refine Sq.v (r_add (look_t rfl) (look_int 1)) rfl rfl rfl ?_
                refine Sq.v (r_move (look_t rfl)) rfl rfl rfl ?_
                refine Sq.nil ?_
                replace h := some_in h
                subst h
                exact To.roundG () 1 rfl (.same rfl (.same rfl (.same rfl (.same rfl (.same rfl (.same rfl (.same rfl (.same rfl (.same rfl (.same rfl (.same rfl (.same rfl (.same rfl (.same rfl (.same rfl (.same rfl (.same rfl (.same rfl (.same rfl (.same rfl (.same rfl (.same rfl (.same rfl .nil)))))))))))))))))))))))
            · replace h := cond_f hc h
              refine Wp.exit ?_
              refine To.exit ?_
              replace h := some_in h
              subst h
              exact To.leaveG () 0 rfl (by simp) rfl (.same rfl (.same rfl (.same rfl (.same rfl (.same rfl (.same rfl (.same rfl (.same rfl (.same rfl (.same rfl (.same rfl (.same rfl (.same rfl (.same rfl (.same rfl (.same rfl (.same rfl (.same rfl (.same rfl (.same rfl (.same rfl (.same rfl (.same rfl (.same rfl .nil))))))))))))))))))))))))
          · clear hl
            rcases e3 with e3 | e3
            · simp only [Sum.elim_inl] at h
              refine To.bexit ?_
              refine To.next ?_
              refine Wp.seq ?_
              refine Wp.reg ?_
              refine Sq.v (r_load (i := 1) (Lens.id T_session_State) (r := y3) ty40 (look_t rfl) rfl rfl rfl) rfl rfl rfl ?_
              refine Sq.v (r_move (look_t rfl)) rfl rfl rfl ?_
              obtain ⟨y10, hy10, h⟩ := bind_some h
              refine Sq.v (r_call en23 (C_session_Primary hy10) ⟨look_t rfl, look_t rfl, trivial⟩) rfl rfl rfl ?_
              refine Sq.v (r_move (look_t rfl)) rfl rfl rfl ?_
              refine Sq.v (r_ext (look_t rfl) rfl) rfl rfl rfl ?_
              refine Sq.v (r_ext (look_t rfl) rfl) rfl rfl rfl ?_
              refine Sq.v (r_asg (look_t rfl)) rfl rfl rfl ?_
              refine Sq.v (r_asg (look_t rfl)) rfl rfl rfl ?_
              refine Sq.nil ?_
              refine To.next ?_
              refine Wp.seq ?_
              refine Wp.reg ?_
              refine Sq.v (r_load (i := 0) (Lens.id T_ref20_State) (r := y4) ty44 (look_t rfl) rfl rfl rfl) rfl rfl rfl ?_
              refine Sq.v (r_move (look_t rfl)) rfl rfl rfl ?_
              obtain ⟨y11, hy11, h⟩ := bind_some h
              refine Sq.v (r_call en29 (C_ref20_Primary hy11) ⟨look_t rfl, look_t rfl, trivial⟩) rfl rfl rfl ?_
              refine Sq.v (r_move (look_t rfl)) rfl rfl rfl ?_
              refine Sq.v (r_ext (look_t rfl) rfl) rfl rfl rfl ?_
              refine Sq.v (r_ext (look_t rfl) rfl) rfl rfl rfl ?_
              refine Sq.v (r_asg (look_t rfl)) rfl rfl rfl ?_
              refine Sq.v (r_asg (look_t rfl)) rfl rfl rfl ?_
              refine Sq.nil ?_
              refine To.next ?_
              refine Wp.seq ?_
              refine Wp.reg ?_
              refine Sq.v (r_move (look_t rfl)) rfl rfl rfl ?_
              refine Sq.v (r_move (look_t rfl)) rfl rfl rfl ?_
              refine Sq.v (r_neq (look_t rfl) (look_t rfl)) rfl rfl rfl ?_
              refine Sq.v (r_move (look_t rfl)) rfl rfl rfl ?_
              refine Sq.g (fun hb => r_move (look_t rfl)) rfl rfl rfl rfl rfl ?_
              refine Sq.g (fun hb => r_move (look_t rfl)) rfl rfl rfl rfl rfl ?_
              refine Sq.g (fun hb => r_bne Try.underlying4 (look_tc rfl hb) (look_tc rfl hb)) rfl rfl rfl rfl rfl ?_
              refine Sq.v (r_or (look_t rfl) (look_t rfl) (fun h => h)) rfl rfl rfl ?_
              refine Sq.nil ?_
              refine To.next ?_
              refine Wp.cond (look_t rfl) (fun hc => ?_) (fun hc => ?_)
              · replace h := cond_t hc h
                refine Wp.seq ?_
                refine Wp.reg ?_
                refine Sq.v (r_asg (look_bool false)) rfl rfl rfl ?_
                refine Sq.nil ?_
                refine To.next ?_
                refine Wp.ret ?_
                refine To.bret ?_
                refine To.ret ?_
                replace h := some_in h
                subst h
                exact To.leaveG () 0 rfl (by simp) rfl (.same rfl (.same rfl (.same rfl (.same rfl (.same rfl (.same rfl (.same rfl (.same rfl (.same rfl (.same rfl (.same rfl (.same rfl (.same rfl (.same rfl (.same rfl (.same rfl (.same rfl (.same rfl (.same rfl (.same rfl (.same rfl (.same rfl (.same rfl (.same rfl .nil))))))))))))))))))))))))
              · replace h := cond_f hc h
                refine Wp.skip ?_
                refine To.bnorm ?_
                refine To.next ?_
                refine Wp.reg ?_
                refine Sq.v (r_add (look_t rfl) (look_int 1)) rfl rfl rfl ?_
                refine Sq.v (r_move (look_t rfl)) rfl rfl rfl ?_
                refine Sq.nil ?_
                replace h := some_in h
                subst h
                exact To.roundG () 0 rfl (.same rfl (.same rfl (.same rfl (.same rfl (.same rfl (.same rfl (.same rfl (.same rfl (.same rfl (.same rfl (.same rfl (.same rfl (.same rfl (.same rfl (.same rfl (.same rfl (.same rfl (.same rfl .nil))))))))))))))))))
            · simp only [Sum.elim_inr] at h
              refine To.bret ?_
              refine To.ret ?_
              refine To.bret ?_
              refine To.ret ?_
              replace h := some_in h
              subst h
              exact To.leaveG () 0 rfl (by simp) rfl (.same rfl (.same rfl (.same rfl (.same rfl (.same rfl (.same rfl (.same rfl (.same rfl (.same rfl (.same rfl (.same rfl (.same rfl (.same rfl (.same rfl (.same rfl (.same rfl (.same rfl (.same rfl (.same rfl (.same rfl (.same rfl (.same rfl (.same rfl (.same rfl .nil))))))))))))))))))))))))
        · replace h := cond_f hc h
          refine Wp.exit ?_
          refine To.exit ?_
          replace h := some_in h
          subst h
          exact To.leaveG () 0 rfl (by simp) rfl (.same rfl (.same rfl (.same rfl (.same rfl (.same rfl (.same rfl (.same rfl (.same rfl (.same rfl (.same rfl (.same rfl (.same rfl (.same rfl (.same rfl (.same rfl (.same rfl (.same rfl (.same rfl (.same rfl .nil)))))))))))))))))))
      · clear hl
        rcases e2 with e2 | e2
        · simp only [Sum.elim_inl] at h
          refine To.bexit ?_
          refine To.bnorm ?_
          refine To.next ?_
          refine Wp.reg ?_
          refine Sq.v (r_add (look_t rfl) (look_int 1)) rfl rfl rfl ?_
          refine Sq.v (r_move (look_t rfl)) rfl rfl rfl ?_
          refine Sq.nil ?_
          replace h := some_in h
          subst h
          exact To.roundG () 0 rfl (.same rfl (.same rfl (.same rfl (.same rfl (.same rfl (.same rfl (.same rfl (.same rfl (.same rfl (.same rfl (.same rfl (.same rfl (.same rfl .nil)))))))))))))
        · simp only [Sum.elim_inr] at h
          refine To.bret ?_
          refine To.bret ?_
          refine To.ret ?_
          replace h := some_in h
          subst h
          exact To.leaveG () 0 rfl (by simp) rfl (.same rfl (.same rfl (.same rfl (.same rfl (.same rfl (.same rfl (.same rfl (.same rfl (.same rfl (.same rfl (.same rfl (.same rfl (.same rfl (.same rfl (.same rfl (.same rfl (.same rfl (.same rfl (.same rfl (.same rfl (.same rfl (.same rfl (.same rfl (.same rfl .nil))))))))))))))))))))))))
    · replace h := cond_f hc h
      refine Wp.exit ?_
      refine To.exit ?_
      replace h := some_in h
      subst h
      exact To.leaveG () 0 rfl (by simp) rfl (.same rfl (.same rfl (.same rfl (.same rfl (.same rfl (.same rfl (.same rfl (.same rfl (.same rfl (.same rfl (.same rfl (.same rfl (.same rfl (.same rfl .nil))))))))))))))
  · clear hl
    rcases e1 with e1 | e1
    · simp only [Sum.elim_inl] at h
      refine To.bexit ?_
      refine To.next ?_
      refine Wp.seq ?_
      refine Wp.reg ?_
      obtain ⟨y12, hy12, h⟩ := bind_some h
      refine Sq.v (r_call en20 (C_law20_begun hy12) trivial) rfl rfl rfl ?_
      refine Sq.v (r_asg (look_t rfl)) rfl rfl rfl ?_
      refine Sq.nil ?_
      refine To.next ?_
      refine Wp.ret ?_
      replace h := some_in h
      subst h
      exact To.end1 rfl (rv_t rfl)
    · simp only [Sum.elim_inr] at h
      refine To.bret ?_
      refine To.ret ?_
      replace h := some_in h
      subst h
      exact To.end1 rfl (rv_t rfl)
end Go.Proofs.Ytodajdohokmjnaa
