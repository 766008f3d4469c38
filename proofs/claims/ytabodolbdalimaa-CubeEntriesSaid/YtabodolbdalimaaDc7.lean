/-
  Printed by the decompiler (dec.py) out of the seat's translation. Each function meets its functional program. Conditions: none.
-/
import Derived.Test.YtabodolbdalimaaDc0
import Derived.Test.YtabodolbdalimaaDc1
import Derived.Test.YtabodolbdalimaaDc5
import Derived.Test.YtabodolbdalimaaDc6
namespace Go.Proofs.Ytabodolbdalimaa
open Go Gv
set_option linter.unusedVariables false
set_option linter.unusedSimpArgs false
set_option maxRecDepth 100000
set_option maxHeartbeats 2000000 in
theorem C_mcase_Codes_match {x0 : T_mcase_Codes} {x1 : T_api_Schema} {x2 : T_api_Key} {pp0 : Nat} {r : T_api_Match × T_mcase_Codes} (h : L_mcase_Codes_match x0 x1 x2 = some r) : MeetsO Try.prog 78 [VP.eq (.pointer (some ⟨pp0, 0, none⟩)), VP.of (x1), VP.of (x2)] [⟨some pp0, .var (x0 : T_mcase_Codes)⟩] (δ := Unit) (fun d => VP.of (r.1)) (fun d => [⟨some pp0, .var (r.2 : T_mcase_Codes)⟩]) := by
  unfold L_mcase_Codes_match at h
  refine MeetsO.of Try.func78 rfl Try.ntmps78 rfl fun W A => ?_
  refine Wp.seq ?_
  refine Wp.reg ?_
  refine Sq.box (z := (x1 : T_api_Schema)) (look_t rfl) rfl fun p1 => ?_
  refine Sq.box (z := (x2 : T_api_Key)) (look_t rfl) rfl fun p2 => ?_
  refine Sq.alloc zr141 rfl fun p3 => ?_
  refine Sq.nil ?_
  refine To.next ?_
  refine Wp.seq ?_
  refine Wp.reg ?_
  refine Sq.v (r_load (i := 2) (Lens.id T_api_Schema) (r := x1) ty84 (look_t rfl) rfl rfl rfl) rfl rfl rfl ?_
  refine Sq.v (r_fa fd139_1 (look_t rfl)) rfl rfl rfl ?_
  refine Sq.v (r_load (i := 1) ((Lens.id T_api_Key).comp le_T_api_Key_Field) (r := x2.f_Field) ty3 (look_t rfl) rfl rfl rfl) rfl rfl rfl ?_
  obtain ⟨y1, hy1, h⟩ := bind_some h
  refine Sq.v (r_call en100 (C_mcase_bitsOf hy1) ⟨look_t rfl, look_t rfl, trivial⟩) rfl rfl rfl ?_
  refine Sq.v (r_asg (look_t rfl)) rfl rfl rfl ?_
  refine Sq.nil ?_
  refine To.next ?_
  refine Wp.seq ?_
  refine Wp.reg ?_
  refine Sq.v (r_move (look_t rfl)) rfl rfl rfl ?_
  refine Sq.bring 3 rfl ?_
  obtain ⟨y2, hy2, h⟩ := bind_some h
  refine Sq.callO (Lin := [⟨some pp0, .var (x0 : T_mcase_Codes)⟩]) (Lr := [⟨some p3, .var ((default : T_api_Match) : T_api_Match)⟩, ⟨some p2, .var (x2 : T_api_Key)⟩, ⟨some p1, .var (x1 : T_api_Schema)⟩]) en72 (C_mcase_Codes_Next hy2) ⟨look_t rfl, look_int 256, trivial⟩ rfl fun q1 => ?_
  refine Sq.v (r_ci64 Try.underlying3 Try.underlying22 (look_t rfl)) rfl rfl rfl ?_
  refine Sq.v (r_shl64 (look_t rfl) (look_u64 24 rfl)) rfl rfl rfl ?_
  refine Sq.v (r_move (look_t rfl)) rfl rfl rfl ?_
  refine Sq.bring 0 rfl ?_
  obtain ⟨y3, hy3, h⟩ := bind_some h
  refine Sq.callO (Lin := [⟨some pp0, .var (y2.2 : T_mcase_Codes)⟩]) (Lr := [⟨some p3, .var ((default : T_api_Match) : T_api_Match)⟩, ⟨some p2, .var (x2 : T_api_Key)⟩, ⟨some p1, .var (x1 : T_api_Schema)⟩]) en72 (C_mcase_Codes_Next hy3) ⟨look_t rfl, look_int 16, trivial⟩ rfl fun q2 => ?_
  refine Sq.v (r_ci64 Try.underlying3 Try.underlying22 (look_t rfl)) rfl rfl rfl ?_
  refine Sq.v (r_shl64 (look_t rfl) (look_u64 8 rfl)) rfl rfl rfl ?_
  obtain ⟨z1, hz1, h⟩ := bind_some h
  refine Sq.v ((r_or64 (look_t rfl) (look_t rfl)).as (some_in hz1)) rfl rfl rfl ?_
  refine Sq.v (r_move (look_t rfl)) rfl rfl rfl ?_
  refine Sq.bring 0 rfl ?_
  obtain ⟨y4, hy4, h⟩ := bind_some h
  refine Sq.callO (Lin := [⟨some pp0, .var (y3.2 : T_mcase_Codes)⟩]) (Lr := [⟨some p3, .var ((default : T_api_Match) : T_api_Match)⟩, ⟨some p2, .var (x2 : T_api_Key)⟩, ⟨some p1, .var (x1 : T_api_Schema)⟩]) en72 (C_mcase_Codes_Next hy4) ⟨look_t rfl, look_int 16, trivial⟩ rfl fun q3 => ?_
  refine Sq.v (r_ci64 Try.underlying3 Try.underlying22 (look_t rfl)) rfl rfl rfl ?_
  refine Sq.v (r_or64 (look_t rfl) (look_t rfl)) rfl rfl rfl ?_
  obtain ⟨z2, hz2, h⟩ := bind_some h
  refine Sq.v ((r_build (b := ({ (default : T_api_Value) with f_Lo := z1 ||| (BitVec.ofInt 64 y4.1) } : T_api_Value)) rfl bu24 zr24 (.cons le_T_api_Value_Lo rfl (look_t rfl) rfl (.nil))).as (some_in hz2)) rfl rfl rfl ?_
  refine Sq.v (r_move (look_t rfl)) rfl rfl rfl ?_
  obtain ⟨y5, hy5, h⟩ := bind_some h
  refine Sq.v (r_call en48 (C_mcase_Low hy5) ⟨look_t rfl, look_t rfl, trivial⟩) rfl rfl rfl ?_
  refine Sq.alloc zr24 rfl fun p4 => ?_
  refine Sq.store (i := 0) (Lens.id T_api_Value) (v := (y5 : T_api_Value)) (b' := (y5 : T_api_Value)) ty24 (look_t rfl) (look_t rfl) rfl rfl rfl ?_
  refine Sq.nil ?_
  refine To.next ?_
  refine Wp.seq ?_
  refine Wp.seq ?_
  refine Wp.reg ?_
  refine Sq.v (r_fa fd139_2 (look_t rfl)) rfl rfl rfl ?_
  refine Sq.v (r_load (i := 3) ((Lens.id T_api_Key).comp le_T_api_Key_Kind) (r := x2.f_Kind) ty3 (look_t rfl) rfl rfl rfl) rfl rfl rfl ?_
  refine Sq.nil ?_
  refine To.next ?_
  refine Wp.block ?_
  refine Wp.seq ?_
  refine Wp.reg ?_
  refine Sq.v (r_eql (look_t rfl) (look_int 2)) rfl rfl rfl ?_
  refine Sq.v (r_asg (look_t rfl)) rfl rfl rfl ?_
  refine Sq.nil ?_
  refine To.next ?_
  refine Wp.cond (look_t rfl) (fun hc => ?_) (fun hc => ?_)
  · replace h := cond_t hc h
    refine Wp.seq ?_
    refine Wp.reg ?_
    refine Sq.v (r_move (look_t rfl)) rfl rfl rfl ?_
    refine Sq.bring 1 rfl ?_
    obtain ⟨y6, hy6, h⟩ := bind_some h
    refine Sq.callO (Lin := [⟨some pp0, .var (y4.2 : T_mcase_Codes)⟩]) (Lr := [⟨some p4, .var (y5 : T_api_Value)⟩, ⟨some p3, .var ((default : T_api_Match) : T_api_Match)⟩, ⟨some p2, .var (x2 : T_api_Key)⟩, ⟨some p1, .var (x1 : T_api_Schema)⟩]) en72 (C_mcase_Codes_Next hy6) ⟨look_t rfl, look_int 5, trivial⟩ rfl fun q4 => ?_
    refine Sq.v (r_gtr (look_t rfl) (look_int 0)) rfl rfl rfl ?_
    refine Sq.nil ?_
    refine To.next ?_
    refine Wp.cond (look_t rfl) (fun hc => ?_) (fun hc => ?_)
    · replace h := cond_t hc h
      refine Wp.seq ?_
      refine Wp.reg ?_
      refine Sq.v (r_move (look_t rfl)) rfl rfl rfl ?_
      refine Sq.v (r_move (look_t rfl)) rfl rfl rfl ?_
      refine Sq.v (r_move (look_t rfl)) rfl rfl rfl ?_
      refine Sq.bring 0 rfl ?_
      obtain ⟨y7, hy7, h⟩ := bind_some h
      refine Sq.callO (Lin := [⟨some pp0, .var (y6.2 : T_mcase_Codes)⟩]) (Lr := [⟨some p4, .var (y5 : T_api_Value)⟩, ⟨some p3, .var ((default : T_api_Match) : T_api_Match)⟩, ⟨some p2, .var (x2 : T_api_Key)⟩, ⟨some p1, .var (x1 : T_api_Schema)⟩]) en72 (C_mcase_Codes_Next hy7) ⟨look_t rfl, look_t rfl, trivial⟩ rfl fun q5 => ?_
      refine Sq.v (r_add (look_int 1) (look_t rfl)) rfl rfl rfl ?_
      refine Sq.v (r_bsl (r := [y1, 8, 16, 1, w64 (1 + y7.1)]) Try.underlying43 ty3 zr3 rfl rfl (.cons (by simp) (look_t rfl) (.cons (by simp) (look_int 8) (.cons (by simp) (look_int 16) (.cons (by simp) (look_int 1) (.cons (by simp) (look_t rfl) (.nil))))))) rfl rfl rfl ?_
      refine Sq.v (r_move (look_t rfl)) rfl rfl rfl ?_
      refine Sq.bring 0 rfl ?_
      obtain ⟨y8, hy8, h⟩ := bind_some h
      refine Sq.callO (Lin := [⟨some pp0, .var (y7.2 : T_mcase_Codes)⟩]) (Lr := [⟨some p4, .var (y5 : T_api_Value)⟩, ⟨some p3, .var ((default : T_api_Match) : T_api_Match)⟩, ⟨some p2, .var (x2 : T_api_Key)⟩, ⟨some p1, .var (x1 : T_api_Schema)⟩]) en72 (C_mcase_Codes_Next hy8) ⟨look_t rfl, look_int 5, trivial⟩ rfl fun q6 => ?_
      obtain ⟨k1, hk1, h⟩ := bind_some h
      refine Sq.v (r_ias (k := k1) Try.underlying43 ty3 (look_t rfl) (look_t rfl) (idx_some hk1)) rfl rfl rfl ?_
      refine Sq.v (r_loadp ty3 (look_t rfl)) rfl rfl rfl ?_
      refine Sq.v (r_asg (look_t rfl)) rfl rfl rfl ?_
      refine Sq.nil ?_
      refine To.next ?_
      refine Wp.seq ?_
      obtain ⟨y9, hy9, h⟩ := bind_some h
      obtain ⟨z3, hz3, h⟩ := bind_some h
      obtain ⟨z4, hz4, h⟩ := bind_some h
      refine Wp.draw mixed 10 [some 51, some 52, some 53, some 54, some 55, some 56, some 57, some 58, some 59, some 60] [[], [], [1], [], [], [3, 4], [5], [2, 6], [7], [0, 8]] [.val (VP.of (lget [y1, 8, 16, 1, w64 (1 + y7.1)] k1)), .val (VP.eq (.pointer (some ⟨p4, 0 + 1, none⟩))), .val (VP.of (y5.f_Lo)), .val (VP.of (y1)), .val (VP.of (lget [y1, 8, 16, 1, w64 (1 + y7.1)] k1)), .val (VP.of (y9)), .val (VP.of (y9.f_Lo)), .val (VP.of (y5.f_Lo &&& y9.f_Lo)), .val (VP.of (z3)), .val (VP.of (z4))] [false, false, false, false, false, false, false, false, false, false] (by kernel_rfl) rfl rfl rfl (fun ps1 => ⟨fun L' hL => HO.v (r_move (look_t rfl)) rfl, fun L' hL => HO.v (r_fa fd24_1 (look_t rfl)) rfl, fun L' hL => HO.v (r_load (i := 1) ((Lens.id T_api_Value).comp le_T_api_Value_Lo) (r := y5.f_Lo) ty22 (look_t rfl) (hL _ _ rfl rfl) rfl rfl) rfl, fun L' hL => HO.v (r_move (look_t rfl)) rfl, fun L' hL => HO.v (r_move (look_t rfl)) rfl, fun L' hL => HO.v (r_call en101 (C_mcase_mask hy9) ⟨look_t rfl, look_t rfl, trivial⟩) rfl, fun L' hL => HO.v (r_field le_T_api_Value_Lo fv24_1 ty22 rfl (look_t rfl) rfl rfl) rfl, fun L' hL => HO.v (r_and64 (look_t rfl) (look_t rfl)) rfl, fun L' hL => HO.v ((r_build (b := ({ (default : T_api_Value) with f_Lo := y5.f_Lo &&& y9.f_Lo } : T_api_Value)) rfl bu24 zr24 (.cons le_T_api_Value_Lo rfl (look_t rfl) rfl (.nil))).as (some_in hz3)) rfl, fun L' hL => HO.v ((r_build (b := ({ (default : T_api_Match) with f_Present := true, f_Prefix := lget [y1, 8, 16, 1, w64 (1 + y7.1)] k1, f_Value := z3 } : T_api_Match)) rfl bu141 zr141 (.cons le_T_api_Match_Present rfl (look_bool true) rfl (.cons le_T_api_Match_Prefix rfl (look_t rfl) rfl (.cons le_T_api_Match_Value rfl (look_t rfl) rfl (.nil))))).as (some_in hz4)) rfl, trivial⟩) fun ps1 => ?_
      refine Sq.store (i := 2) (Lens.id T_api_Match) (v := (z4 : T_api_Match)) (b' := (z4 : T_api_Match)) ty141 (look_t rfl) (look_t rfl) rfl rfl rfl ?_
      refine Sq.nil ?_
      refine To.next ?_
      refine Wp.ret ?_
      refine To.bret ?_
      refine To.ret ?_
      refine To.bring 0 rfl ?_
      replace h := some_in h
      subst h
      exact To.endO1 () (.cons_cons _ (List.nil_sublist _)) rfl rfl (rvo_c (i := 2) ty141 rfl rfl)
    · replace h := cond_f hc h
      refine Wp.skip ?_
      refine To.bnorm ?_
      refine To.next ?_
      refine Wp.seq ?_
      refine Wp.reg ?_
      refine Sq.v (r_build (b := (default : T_api_Match)) rfl bu141 zr141 (.nil)) rfl rfl rfl ?_
      refine Sq.store (i := 2) (Lens.id T_api_Match) (v := ((default : T_api_Match) : T_api_Match)) (b' := ((default : T_api_Match) : T_api_Match)) ty141 (look_t rfl) (look_t rfl) rfl rfl rfl ?_
      refine Sq.nil ?_
      refine To.next ?_
      refine Wp.ret ?_
      refine To.bring 0 rfl ?_
      replace h := some_in h
      subst h
      exact To.endO1 () (.cons_cons _ (List.nil_sublist _)) rfl rfl (rvo_c (i := 2) ty141 rfl rfl)
  · replace h := cond_f hc h
    refine Wp.seq ?_
    refine Wp.reg ?_
    refine Sq.v (r_eql (look_t rfl) (look_int 3)) rfl rfl rfl ?_
    refine Sq.v (r_asg (look_t rfl)) rfl rfl rfl ?_
    refine Sq.nil ?_
    refine To.next ?_
    refine Wp.cond (look_t rfl) (fun hc => ?_) (fun hc => ?_)
    · replace h := cond_t hc h
      refine Wp.seq ?_
      refine Wp.reg ?_
      refine Sq.v (r_move (look_t rfl)) rfl rfl rfl ?_
      refine Sq.bring 1 rfl ?_
      obtain ⟨y10, hy10, h⟩ := bind_some h
      refine Sq.callO (Lin := [⟨some pp0, .var (y4.2 : T_mcase_Codes)⟩]) (Lr := [⟨some p4, .var (y5 : T_api_Value)⟩, ⟨some p3, .var ((default : T_api_Match) : T_api_Match)⟩, ⟨some p2, .var (x2 : T_api_Key)⟩, ⟨some p1, .var (x1 : T_api_Schema)⟩]) en72 (C_mcase_Codes_Next hy10) ⟨look_t rfl, look_int 256, trivial⟩ rfl fun q7 => ?_
      refine Sq.v (r_bsl (r := ([255, 15, 1, 12, y10.1] : List Int)) Try.underlying43 ty3 zr3 rfl rfl (.cons (by simp) (look_int 255) (.cons (by simp) (look_int 15) (.cons (by simp) (look_int 1) (.cons (by simp) (look_int 12) (.cons (by simp) (look_t rfl) (.nil))))))) rfl rfl rfl ?_
      refine Sq.v (r_move (look_t rfl)) rfl rfl rfl ?_
      refine Sq.bring 0 rfl ?_
      obtain ⟨y11, hy11, h⟩ := bind_some h
      refine Sq.callO (Lin := [⟨some pp0, .var (y10.2 : T_mcase_Codes)⟩]) (Lr := [⟨some p4, .var (y5 : T_api_Value)⟩, ⟨some p3, .var ((default : T_api_Match) : T_api_Match)⟩, ⟨some p2, .var (x2 : T_api_Key)⟩, ⟨some p1, .var (x1 : T_api_Schema)⟩]) en72 (C_mcase_Codes_Next hy11) ⟨look_t rfl, look_int 5, trivial⟩ rfl fun q8 => ?_
      obtain ⟨k2, hk2, h⟩ := bind_some h
      refine Sq.v (r_ias (k := k2) Try.underlying43 ty3 (look_t rfl) (look_t rfl) (idx_some hk2)) rfl rfl rfl ?_
      refine Sq.v (r_loadp ty3 (look_t rfl)) rfl rfl rfl ?_
      refine Sq.v (r_ci64 Try.underlying3 Try.underlying22 (look_t rfl)) rfl rfl rfl ?_
      obtain ⟨z5, hz5, h⟩ := bind_some h
      refine Sq.v ((r_build (b := ({ (default : T_api_Value) with f_Lo := BitVec.ofInt 64 (lget ([255, 15, 1, 12, y10.1] : List Int) k2) } : T_api_Value)) rfl bu24 zr24 (.cons le_T_api_Value_Lo rfl (look_t rfl) rfl (.nil))).as (some_in hz5)) rfl rfl rfl ?_
      refine Sq.v (r_move (look_t rfl)) rfl rfl rfl ?_
      obtain ⟨y12, hy12, h⟩ := bind_some h
      refine Sq.v (r_call en48 (C_mcase_Low hy12) ⟨look_t rfl, look_t rfl, trivial⟩) rfl rfl rfl ?_
      refine Sq.alloc zr24 rfl fun p5 => ?_
      refine Sq.store (i := 0) (Lens.id T_api_Value) (v := (y12 : T_api_Value)) (b' := (y12 : T_api_Value)) ty24 (look_t rfl) (look_t rfl) rfl rfl rfl ?_
      refine Sq.nil ?_
      refine To.next ?_
      refine Wp.seq ?_
      refine Wp.reg ?_
      refine Sq.v (r_fa fd24_1 (look_t rfl)) rfl rfl rfl ?_
      refine Sq.v (r_load (i := 0) ((Lens.id T_api_Value).comp le_T_api_Value_Lo) (r := y12.f_Lo) ty22 (look_t rfl) rfl rfl rfl) rfl rfl rfl ?_
      refine Sq.v (r_neq64 (look_t rfl) (look_u64 0 rfl)) rfl rfl rfl ?_
      refine Sq.nil ?_
      refine To.next ?_
      refine Wp.cond (look_t rfl) (fun hc => ?_) (fun hc => ?_)
      · replace h := cond_t hc h
        refine Wp.seq ?_
        refine Wp.reg ?_
        refine Sq.v (r_load (i := 0) (Lens.id T_api_Value) (r := y12) ty24 (look_t rfl) rfl rfl rfl) rfl rfl rfl ?_
        refine Sq.v (r_fa fd24_1 (look_t rfl)) rfl rfl rfl ?_
        refine Sq.v (r_load (i := 2) ((Lens.id T_api_Value).comp le_T_api_Value_Lo) (r := y5.f_Lo) ty22 (look_t rfl) rfl rfl rfl) rfl rfl rfl ?_
        refine Sq.v (r_fa fd24_1 (look_t rfl)) rfl rfl rfl ?_
        refine Sq.v (r_load (i := 0) ((Lens.id T_api_Value).comp le_T_api_Value_Lo) (r := y12.f_Lo) ty22 (look_t rfl) rfl rfl rfl) rfl rfl rfl ?_
        refine Sq.v (r_and64 (look_t rfl) (look_t rfl)) rfl rfl rfl ?_
        obtain ⟨z6, hz6, h⟩ := bind_some h
        refine Sq.v ((r_build (b := ({ (default : T_api_Value) with f_Lo := y5.f_Lo &&& y12.f_Lo } : T_api_Value)) rfl bu24 zr24 (.cons le_T_api_Value_Lo rfl (look_t rfl) rfl (.nil))).as (some_in hz6)) rfl rfl rfl ?_
        obtain ⟨z7, hz7, h⟩ := bind_some h
        refine Sq.v ((r_build (b := ({ (default : T_api_Match) with f_Present := true, f_Mask := y12, f_Value := z6 } : T_api_Match)) rfl bu141 zr141 (.cons le_T_api_Match_Present rfl (look_bool true) rfl (.cons le_T_api_Match_Mask rfl (look_t rfl) rfl (.cons le_T_api_Match_Value rfl (look_t rfl) rfl (.nil))))).as (some_in hz7)) rfl rfl rfl ?_
        refine Sq.store (i := 3) (Lens.id T_api_Match) (v := (z7 : T_api_Match)) (b' := (z7 : T_api_Match)) ty141 (look_t rfl) (look_t rfl) rfl rfl rfl ?_
        refine Sq.nil ?_
        refine To.next ?_
        refine Wp.ret ?_
        refine To.bret ?_
        refine To.ret ?_
        refine To.bring 1 rfl ?_
        replace h := some_in h
        subst h
        exact To.endO1 () (.cons_cons _ (List.nil_sublist _)) rfl rfl (rvo_c (i := 3) ty141 rfl rfl)
      · replace h := cond_f hc h
        refine Wp.skip ?_
        refine To.bnorm ?_
        refine To.next ?_
        refine Wp.seq ?_
        refine Wp.reg ?_
        refine Sq.v (r_build (b := (default : T_api_Match)) rfl bu141 zr141 (.nil)) rfl rfl rfl ?_
        refine Sq.store (i := 3) (Lens.id T_api_Match) (v := ((default : T_api_Match) : T_api_Match)) (b' := ((default : T_api_Match) : T_api_Match)) ty141 (look_t rfl) (look_t rfl) rfl rfl rfl ?_
        refine Sq.nil ?_
        refine To.next ?_
        refine Wp.ret ?_
        refine To.bring 1 rfl ?_
        replace h := some_in h
        subst h
        exact To.endO1 () (.cons_cons _ (List.nil_sublist _)) rfl rfl (rvo_c (i := 3) ty141 rfl rfl)
    · replace h := cond_f hc h
      refine Wp.seq ?_
      refine Wp.reg ?_
      refine Sq.v (r_eql (look_t rfl) (look_int 4)) rfl rfl rfl ?_
      refine Sq.v (r_asg (look_t rfl)) rfl rfl rfl ?_
      refine Sq.nil ?_
      refine To.next ?_
      refine Wp.cond (look_t rfl) (fun hc => ?_) (fun hc => ?_)
      · replace h := cond_t hc h
        refine Wp.seq ?_
        obtain ⟨y13, hy13, h⟩ := bind_some h
        obtain ⟨z8, hz8, h⟩ := bind_some h
        refine Wp.le (E' := [(0, VP.eq (.pointer (some ⟨pp0, 0, none⟩))), (1, VP.of (x1)), (2, VP.of (x2)), (4, VP.eq (.pointer (some ⟨p1, 0, none⟩))), (5, VP.eq (.pointer (some ⟨p2, 0, none⟩))), (6, VP.eq (.pointer (some ⟨p3, 0, none⟩))), (7, VP.of (y1)), (8, VP.eq (.pointer (some ⟨p4, 0, none⟩))), (12, VP.of (x1)), (13, VP.eq (.pointer (some ⟨p2, 0 + 1, none⟩))), (14, VP.of (x2.f_Field)), (15, VP.of (y1)), (16, VP.eq (.pointer (some ⟨pp0, 0, none⟩))), (17, VP.of (y2.1)), (18, VP.of (BitVec.ofInt 64 y2.1)), (19, VP.of ((BitVec.ofInt 64 y2.1) <<< (24#64).toNat)), (20, VP.eq (.pointer (some ⟨pp0, 0, none⟩))), (21, VP.of (y3.1)), (22, VP.of (BitVec.ofInt 64 y3.1)), (23, VP.of ((BitVec.ofInt 64 y3.1) <<< (8#64).toNat)), (24, VP.of (z1)), (25, VP.eq (.pointer (some ⟨pp0, 0, none⟩))), (26, VP.of (y4.1)), (27, VP.of (BitVec.ofInt 64 y4.1)), (28, VP.of (z1 ||| (BitVec.ofInt 64 y4.1))), (29, VP.of (z2)), (30, VP.of (y1)), (31, VP.of (y5)), (32, VP.eq (.pointer (some ⟨p2, 0 + 2, none⟩))), (33, VP.of (x2.f_Kind)), (36, VP.of (x2.f_Kind == 2)), (37, VP.of (x2.f_Kind == 2)), (61, VP.of (x2.f_Kind == 3)), (62, VP.of (x2.f_Kind == 3)), (85, VP.of (x2.f_Kind == 4)), (86, VP.of (x2.f_Kind == 4))]) (.same rfl (.same rfl (.same rfl (.same rfl (.same rfl (.same rfl (.same rfl (.same rfl (.same rfl (.same rfl (.same rfl (.same rfl (.same rfl (.same rfl (.same rfl (.same rfl (.same rfl (.same rfl (.same rfl (.same rfl (.same rfl (.same rfl (.same rfl (.same rfl (.same rfl (.same rfl (.same rfl (.same rfl (.same rfl (.same rfl (.same rfl (.same rfl (.same rfl (.same rfl (.same rfl (.same rfl .nil)))))))))))))))))))))))))))))))))))) ?_
        refine Wp.drawD mixed (⟨some 87, [], [], [], fun _ => VP.eq (.pointer (some ⟨p4, 0 + 1, none⟩)), fun _ _ => ⟨none, .dead⟩⟩ :: ⟨some 88, (0 :: []), (0 :: []), [], fun _ => VP.of (y5.f_Lo), fun _ _ => ⟨none, .dead⟩⟩ :: ⟨some 89, [], [], [], fun _ => VP.eq (.pointer (some ⟨pp0, 0, none⟩)), fun _ _ => ⟨none, .dead⟩⟩ :: ⟨some 90, (2 :: []), (1 :: []), (1 :: []), fun _ => VP.of (y13.1), fun hd _ => ⟨some pp0, .var (y13.2 : T_mcase_Codes)⟩⟩ :: ⟨some 91, (3 :: []), [], [], fun _ => VP.of (BitVec.ofInt 64 y13.1), fun _ _ => ⟨none, .dead⟩⟩ :: ⟨some 92, (1 :: 4 :: []), [], [], fun _ => VP.of (y5.f_Lo + (BitVec.ofInt 64 y13.1)), fun _ _ => ⟨none, .dead⟩⟩ :: ⟨some 93, [], [], [], fun _ => VP.of (y1), fun _ _ => ⟨none, .dead⟩⟩ :: ⟨some 94, (6 :: []), [], [], fun _ => VP.of (BitVec.ofInt 64 y1), fun _ _ => ⟨none, .dead⟩⟩ :: ⟨some 95, (7 :: []), [], [], fun _ => VP.of ((1#64) <<< (BitVec.ofInt 64 y1).toNat), fun _ _ => ⟨none, .dead⟩⟩ :: ⟨some 96, (8 :: []), [], [], fun _ => VP.of (((1#64) <<< (BitVec.ofInt 64 y1).toNat) - (1#64)), fun _ _ => ⟨none, .dead⟩⟩ :: ⟨some 97, (5 :: 9 :: []), [], [], fun _ => VP.of (z8), fun _ _ => ⟨none, .dead⟩⟩ :: ⟨some 11, (10 :: []), [], [], fun _ => VP.of (z8), fun _ _ => ⟨none, .dead⟩⟩ :: []) ((some 87, [], [], []) :: (some 88, (0 :: []), (0 :: []), []) :: (some 89, [], [], []) :: (some 90, (2 :: []), (1 :: []), (1 :: [])) :: (some 91, (3 :: []), [], []) :: (some 92, (1 :: 4 :: []), [], []) :: (some 93, [], [], []) :: (some 94, (6 :: []), [], []) :: (some 95, (7 :: []), [], []) :: (some 96, (8 :: []), [], []) :: (some 97, (5 :: 9 :: []), [], []) :: (some 11, (10 :: []), [], []) :: []) (0 :: 1 :: 2 :: 4 :: 5 :: 6 :: 7 :: 8 :: 12 :: 13 :: 14 :: 15 :: 16 :: 17 :: 18 :: 19 :: 20 :: 21 :: 22 :: 23 :: 24 :: 25 :: 26 :: 27 :: 28 :: 29 :: 30 :: 31 :: 32 :: 33 :: 36 :: 37 :: 61 :: 62 :: 85 :: 86 :: []) rfl rfl (by kernel_rfl) ⟨?_, ?_, ?_, ?_, ?_, ?_, ?_, ?_, ?_, ?_, ?_, ?_, trivial⟩ fun hd => ?_
        · exact hd_v rfl rfl rfl fun hd E' L' hE hL => r_fa fd24_1 (look_t (hE _ _ rfl))
        · exact hd_v rfl rfl rfl fun hd E' L' hE hL => r_load (i := 0) ((Lens.id T_api_Value).comp le_T_api_Value_Lo) (r := y5.f_Lo) ty22 (look_t (hE _ _ rfl)) (hL 0 _ rfl rfl) rfl rfl
        · exact hd_v rfl rfl rfl fun hd E' L' hE hL => r_move (look_t (hE _ _ rfl))
        · intro hd E' L' hE hL
          refine Sq.bring 1 (hL 1 _ rfl rfl) ?_
          refine Sq.callO (Lin := [⟨some pp0, .var (y4.2 : T_mcase_Codes)⟩]) (Lr := L'.eraseIdx 1) en72 (C_mcase_Codes_Next hy13) ⟨look_t (hE _ _ rfl), look_int 256, trivial⟩ rfl fun q9 => ?_
          refine Sq.nil ?_
          refine To.back 1 (hL 1 _ rfl rfl) ?_
          exact To.fin (gm []) rfl rfl
        · exact hd_v rfl rfl rfl fun hd E' L' hE hL => r_ci64 Try.underlying3 Try.underlying22 (look_t (hE _ _ rfl))
        · exact hd_v rfl rfl rfl fun hd E' L' hE hL => r_add64 (look_t (hE _ _ rfl)) (look_t (hE _ _ rfl))
        · exact hd_v rfl rfl rfl fun hd E' L' hE hL => r_move (look_t (hE _ _ rfl))
        · exact hd_v rfl rfl rfl fun hd E' L' hE hL => r_ci64 Try.underlying3 Try.underlying117 (look_t (hE _ _ rfl))
        · exact hd_v rfl rfl rfl fun hd E' L' hE hL => r_shl64 (look_u64 1 rfl) (look_t (hE _ _ rfl))
        · exact hd_v rfl rfl rfl fun hd E' L' hE hL => r_sub64 (look_t (hE _ _ rfl)) (look_u64 1 rfl)
        · exact hd_v rfl rfl rfl fun hd E' L' hE hL => (r_minu64 (look_t (hE _ _ rfl)) (look_t (hE _ _ rfl))).as (some_in hz8)
        · exact hd_v rfl rfl rfl fun hd E' L' hE hL => r_asg (look_t (hE _ _ rfl))
        refine To.eqL (L2 := [⟨some p4, .var (y5 : T_api_Value)⟩, ⟨some pp0, .var (y13.2 : T_mcase_Codes)⟩, ⟨some p3, .var ((default : T_api_Match) : T_api_Match)⟩, ⟨some p2, .var (x2 : T_api_Key)⟩, ⟨some p1, .var (x1 : T_api_Schema)⟩]) rfl ?_
        refine To.le (E' := [(0, VP.eq (.pointer (some ⟨pp0, 0, none⟩))), (1, VP.of (x1)), (2, VP.of (x2)), (4, VP.eq (.pointer (some ⟨p1, 0, none⟩))), (5, VP.eq (.pointer (some ⟨p2, 0, none⟩))), (6, VP.eq (.pointer (some ⟨p3, 0, none⟩))), (7, VP.of (y1)), (8, VP.eq (.pointer (some ⟨p4, 0, none⟩))), (11, VP.of (z8)), (12, VP.of (x1)), (13, VP.eq (.pointer (some ⟨p2, 0 + 1, none⟩))), (14, VP.of (x2.f_Field)), (15, VP.of (y1)), (16, VP.eq (.pointer (some ⟨pp0, 0, none⟩))), (17, VP.of (y2.1)), (18, VP.of (BitVec.ofInt 64 y2.1)), (19, VP.of ((BitVec.ofInt 64 y2.1) <<< (24#64).toNat)), (20, VP.eq (.pointer (some ⟨pp0, 0, none⟩))), (21, VP.of (y3.1)), (22, VP.of (BitVec.ofInt 64 y3.1)), (23, VP.of ((BitVec.ofInt 64 y3.1) <<< (8#64).toNat)), (24, VP.of (z1)), (25, VP.eq (.pointer (some ⟨pp0, 0, none⟩))), (26, VP.of (y4.1)), (27, VP.of (BitVec.ofInt 64 y4.1)), (28, VP.of (z1 ||| (BitVec.ofInt 64 y4.1))), (29, VP.of (z2)), (30, VP.of (y1)), (31, VP.of (y5)), (32, VP.eq (.pointer (some ⟨p2, 0 + 2, none⟩))), (33, VP.of (x2.f_Kind)), (36, VP.of (x2.f_Kind == 2)), (37, VP.of (x2.f_Kind == 2)), (61, VP.of (x2.f_Kind == 3)), (62, VP.of (x2.f_Kind == 3)), (85, VP.of (x2.f_Kind == 4)), (86, VP.of (x2.f_Kind == 4)), (87, VP.eq (.pointer (some ⟨p4, 0 + 1, none⟩))), (88, VP.of (y5.f_Lo)), (89, VP.eq (.pointer (some ⟨pp0, 0, none⟩))), (90, VP.of (y13.1)), (91, VP.of (BitVec.ofInt 64 y13.1)), (92, VP.of (y5.f_Lo + (BitVec.ofInt 64 y13.1))), (93, VP.of (y1)), (94, VP.of (BitVec.ofInt 64 y1)), (95, VP.of ((1#64) <<< (BitVec.ofInt 64 y1).toNat)), (96, VP.of (((1#64) <<< (BitVec.ofInt 64 y1).toNat) - (1#64))), (97, VP.of (z8))]) (.same rfl (.same rfl (.same rfl (.same rfl (.same rfl (.same rfl (.same rfl (.same rfl (.same rfl (.same rfl (.same rfl (.same rfl (.same rfl (.same rfl (.same rfl (.same rfl (.same rfl (.same rfl (.same rfl (.same rfl (.same rfl (.same rfl (.same rfl (.same rfl (.same rfl (.same rfl (.same rfl (.same rfl (.same rfl (.same rfl (.same rfl (.same rfl (.same rfl (.same rfl (.same rfl (.same rfl (.same rfl (.same rfl (.same rfl (.same rfl (.same rfl (.same rfl (.same rfl (.same rfl (.same rfl (.same rfl (.same rfl (.same rfl .nil)))))))))))))))))))))))))))))))))))))))))))))))) ?_
        refine To.next ?_
        refine Wp.seq ?_
        refine Wp.reg ?_
        refine Sq.v (r_move (look_t rfl)) rfl rfl rfl ?_
        refine Sq.bring 1 rfl ?_
        obtain ⟨y14, hy14, h⟩ := bind_some h
        refine Sq.callO (Lin := [⟨some pp0, .var (y13.2 : T_mcase_Codes)⟩]) (Lr := [⟨some p4, .var (y5 : T_api_Value)⟩, ⟨some p3, .var ((default : T_api_Match) : T_api_Match)⟩, ⟨some p2, .var (x2 : T_api_Key)⟩, ⟨some p1, .var (x1 : T_api_Schema)⟩]) en72 (C_mcase_Codes_Next hy14) ⟨look_t rfl, look_int 5, trivial⟩ rfl fun q10 => ?_
        refine Sq.v (r_gtr (look_t rfl) (look_int 0)) rfl rfl rfl ?_
        refine Sq.v (r_move (look_t rfl)) rfl rfl rfl ?_
        refine Sq.g (fun hb => r_fa fd24_1 (look_t rfl)) rfl rfl rfl rfl rfl ?_
        refine Sq.g (fun hb => r_load (i := 1) ((Lens.id T_api_Value).comp le_T_api_Value_Lo) (r := y5.f_Lo) ty22 (look_tc rfl hb) rfl rfl rfl) rfl rfl rfl rfl rfl ?_
        refine Sq.g (fun hb => r_eql64 (look_tc rfl hb) (look_u64 0 rfl)) rfl rfl rfl rfl rfl ?_
        refine Sq.g (fun hb => r_move (look_tc rfl hb)) rfl rfl rfl rfl rfl ?_
        refine Sq.gg (fun hb => r_move (look_t rfl)) rfl rfl rfl rfl rfl ?_
        refine Sq.gg (fun hb => r_move (look_t rfl)) rfl rfl rfl rfl rfl ?_
        refine Sq.gg (fun hb => r_ci64 Try.underlying3 Try.underlying117 (look_tc rfl hb)) rfl rfl rfl rfl rfl ?_
        refine Sq.gg (fun hb => r_shl64 (look_u64 1 rfl) (look_tc rfl hb)) rfl rfl rfl rfl rfl ?_
        refine Sq.gg (fun hb => r_sub64 (look_tc rfl hb) (look_u64 1 rfl)) rfl rfl rfl rfl rfl ?_
        refine Sq.gg (fun hb => r_eql64 (look_tc rfl hb) (look_tc rfl hb)) rfl rfl rfl rfl rfl ?_
        refine Sq.g (fun hb => r_and (look_tc rfl hb) (look_t rfl) (fun h => ⟨hb, h⟩)) rfl rfl rfl rfl rfl ?_
        refine Sq.g (fun hb => r_not (look_tc rfl hb)) rfl rfl rfl rfl rfl ?_
        obtain ⟨z9, hz9, h⟩ := bind_some h
        refine Sq.v ((r_and (look_t rfl) (look_t rfl) (fun h => h)).as (some_in hz9)) rfl rfl rfl ?_
        refine Sq.nil ?_
        refine To.next ?_
        refine Wp.cond (look_t rfl) (fun hc => ?_) (fun hc => ?_)
        · replace h := cond_t hc h
          refine Wp.seq ?_
          refine Wp.reg ?_
          refine Sq.v (r_load (i := 1) (Lens.id T_api_Value) (r := y5) ty24 (look_t rfl) rfl rfl rfl) rfl rfl rfl ?_
          refine Sq.v (r_move (look_t rfl)) rfl rfl rfl ?_
          refine Sq.v (r_build (b := ({ (default : T_api_Value) with f_Lo := z8 } : T_api_Value)) rfl bu24 zr24 (.cons le_T_api_Value_Lo rfl (look_t rfl) rfl (.nil))) rfl rfl rfl ?_
          obtain ⟨z10, hz10, h⟩ := bind_some h
          refine Sq.v ((r_build (b := ({ (default : T_api_Match) with f_Present := true, f_Value := y5, f_High := ({ (default : T_api_Value) with f_Lo := z8 } : T_api_Value) } : T_api_Match)) rfl bu141 zr141 (.cons le_T_api_Match_Present rfl (look_bool true) rfl (.cons le_T_api_Match_Value rfl (look_t rfl) rfl (.cons le_T_api_Match_High rfl (look_t rfl) rfl (.nil))))).as (some_in hz10)) rfl rfl rfl ?_
          refine Sq.store (i := 2) (Lens.id T_api_Match) (v := (z10 : T_api_Match)) (b' := (z10 : T_api_Match)) ty141 (look_t rfl) (look_t rfl) rfl rfl rfl ?_
          refine Sq.nil ?_
          refine To.next ?_
          refine Wp.ret ?_
          refine To.bret ?_
          refine To.ret ?_
          refine To.bring 0 rfl ?_
          replace h := some_in h
          subst h
          exact To.endO1 () (.cons_cons _ (List.nil_sublist _)) rfl rfl (rvo_c (i := 2) ty141 rfl rfl)
        · replace h := cond_f hc h
          refine Wp.skip ?_
          refine To.bnorm ?_
          refine To.next ?_
          refine Wp.seq ?_
          refine Wp.reg ?_
          refine Sq.v (r_build (b := (default : T_api_Match)) rfl bu141 zr141 (.nil)) rfl rfl rfl ?_
          refine Sq.store (i := 2) (Lens.id T_api_Match) (v := ((default : T_api_Match) : T_api_Match)) (b' := ((default : T_api_Match) : T_api_Match)) ty141 (look_t rfl) (look_t rfl) rfl rfl rfl ?_
          refine Sq.nil ?_
          refine To.next ?_
          refine Wp.ret ?_
          refine To.bring 0 rfl ?_
          replace h := some_in h
          subst h
          exact To.endO1 () (.cons_cons _ (List.nil_sublist _)) rfl rfl (rvo_c (i := 2) ty141 rfl rfl)
      · replace h := cond_f hc h
        refine Wp.seq ?_
        refine Wp.reg ?_
        refine Sq.v (r_load (i := 0) (Lens.id T_api_Value) (r := y5) ty24 (look_t rfl) rfl rfl rfl) rfl rfl rfl ?_
        obtain ⟨z11, hz11, h⟩ := bind_some h
        refine Sq.v ((r_build (b := ({ (default : T_api_Match) with f_Present := true, f_Value := y5 } : T_api_Match)) rfl bu141 zr141 (.cons le_T_api_Match_Present rfl (look_bool true) rfl (.cons le_T_api_Match_Value rfl (look_t rfl) rfl (.nil)))).as (some_in hz11)) rfl rfl rfl ?_
        refine Sq.store (i := 2) (Lens.id T_api_Match) (v := (z11 : T_api_Match)) (b' := (z11 : T_api_Match)) ty141 (look_t rfl) (look_t rfl) rfl rfl rfl ?_
        refine Sq.nil ?_
        refine To.next ?_
        refine Wp.ret ?_
        refine To.bret ?_
        refine To.ret ?_
        refine To.bring 1 rfl ?_
        replace h := some_in h
        subst h
        exact To.endO1 () (.cons_cons _ (List.nil_sublist _)) rfl rfl (rvo_c (i := 2) ty141 rfl rfl)
set_option maxHeartbeats 2000000 in
theorem C_value_Leading {x0 : Int} {x1 : Int}  {r : T_api_Value} (h : L_value_Leading x0 x1 = some r) : Meets Try.prog 107 [VP.of (x0), VP.of (x1)] (VP.of (r)) := by
  unfold L_value_Leading at h
  refine Meets.of Try.func107 rfl Try.ntmps107 rfl fun W A => ?_
  refine Wp.seq ?_
  refine Wp.reg ?_
  refine Sq.alloc zr24 rfl fun p1 => ?_
  refine Sq.nil ?_
  refine To.next ?_
  refine Wp.seq ?_
  refine Wp.reg ?_
  refine Sq.v (r_move (look_t rfl)) rfl rfl rfl ?_
  obtain ⟨y1, hy1, h⟩ := bind_some h
  refine Sq.v (r_call en115 (C_value_within hy1) ⟨look_t rfl, trivial⟩) rfl rfl rfl ?_
  refine Sq.v (r_asg (look_t rfl)) rfl rfl rfl ?_
  refine Sq.nil ?_
  refine To.next ?_
  refine Wp.seq ?_
  refine Wp.reg ?_
  refine Sq.v (r_move (look_t rfl)) rfl rfl rfl ?_
  refine Sq.v (r_max (look_int 0) (look_t rfl)) rfl rfl rfl ?_
  refine Sq.v (r_move (look_t rfl)) rfl rfl rfl ?_
  refine Sq.v (r_min (look_t rfl) (look_t rfl)) rfl rfl rfl ?_
  refine Sq.v (r_asg (look_t rfl)) rfl rfl rfl ?_
  refine Sq.nil ?_
  refine To.next ?_
  refine Wp.seq ?_
  refine Wp.reg ?_
  refine Sq.v (r_move (look_t rfl)) rfl rfl rfl ?_
  obtain ⟨y2, hy2, h⟩ := bind_some h
  refine Sq.v (r_call en106 (C_value_Ones hy2) ⟨look_t rfl, trivial⟩) rfl rfl rfl ?_
  refine Sq.v (r_move (look_t rfl)) rfl rfl rfl ?_
  refine Sq.v (r_move (look_t rfl)) rfl rfl rfl ?_
  refine Sq.v (r_sub (look_t rfl) (look_t rfl)) rfl rfl rfl ?_
  obtain ⟨y3, hy3, h⟩ := bind_some h
  refine Sq.v (r_call en106 (C_value_Ones hy3) ⟨look_t rfl, trivial⟩) rfl rfl rfl ?_
  obtain ⟨y4, hy4, h⟩ := bind_some h
  refine Sq.v (r_call en57 (C_value_Xor hy4) ⟨look_t rfl, look_t rfl, trivial⟩) rfl rfl rfl ?_
  refine Sq.store (i := 0) (Lens.id T_api_Value) (v := (y4 : T_api_Value)) (b' := (y4 : T_api_Value)) ty24 (look_t rfl) (look_t rfl) rfl rfl rfl ?_
  refine Sq.nil ?_
  refine To.next ?_
  refine Wp.ret ?_
  replace h := some_in h
  subst h
  exact To.end1 rfl (rv_c (i := 0) ty24 rfl rfl)
set_option maxHeartbeats 2000000 in
theorem C_ref04_Bits {x0 : T_api_Schema} {x1 : Int}  {r : Int} (h : L_ref04_Bits x0 x1 = some r) : Meets Try.prog 85 [VP.of (x0), VP.of (x1)] (VP.of (r)) := by
  unfold L_ref04_Bits at h
  refine Meets.of Try.func85 rfl Try.ntmps85 rfl fun W A => ?_
  refine Wp.seq ?_
  refine Wp.reg ?_
  refine Sq.box (z := (x0 : T_api_Schema)) (look_t rfl) rfl fun p1 => ?_
  refine Sq.v (r_asg (look_int 0)) rfl rfl rfl ?_
  refine Sq.nil ?_
  refine To.next ?_
  refine Wp.seq ?_
  obtain ⟨y1, hy1, h⟩ := bind_some h
  obtain ⟨k1, hk1, h⟩ := bind_some h
  refine Wp.draw mixed 8 [some 5, some 6, some 7, some 8, some 9, some 10, some 11, some 12] [[], [0], [], [], [2, 3], [1, 4], [5], [6]] [.val (VP.eq (.pointer (some ⟨p1, 0 + 0, none⟩))), .val (VP.of (x0.f_Fields)), .val (VP.of (x0)), .val (VP.of (x1)), .val (VP.of (y1)), .val (VP.ptr (lget x0.f_Fields k1)), .val (VP.ptr ((lget x0.f_Fields k1).f_Bits)), .val (VP.of ((lget x0.f_Fields k1).f_Bits))] [false, false, false, false, false, false, false, false] (by kernel_rfl) rfl rfl rfl (fun ps1 => ⟨fun L' hL => HO.v (r_fa fd84_0 (look_t rfl)) rfl, fun L' hL => HO.v (r_load (i := 0) ((Lens.id T_api_Schema).comp le_T_api_Schema_Fields) (r := x0.f_Fields) ty75 (look_t rfl) (hL _ _ rfl rfl) rfl rfl) rfl, fun L' hL => HO.v (r_load (i := 0) (Lens.id T_api_Schema) (r := x0) ty84 (look_t rfl) (hL _ _ rfl rfl) rfl rfl) rfl, fun L' hL => HO.v (r_move (look_t rfl)) rfl, fun L' hL => HO.v (r_call en110 (C_ref04_FieldOf hy1) ⟨look_t rfl, look_t rfl, trivial⟩) rfl, fun L' hL => HO.v (r_ias (k := k1) Try.underlying75 ty127 (look_t rfl) (look_t rfl) (idx_some hk1)) rfl, fun L' hL => HO.v (r_fap le_T_api_Field_Bits fd127_2 (look_t rfl) rfl rfl) rfl, fun L' hL => HO.v (r_loadp ty3 (look_t rfl)) rfl, trivial⟩) fun ps1 => ?_
  refine Sq.v (r_asg (look_t rfl)) rfl rfl rfl ?_
  refine Sq.nil ?_
  refine To.next ?_
  refine Wp.ret ?_
  replace h := some_in h
  subst h
  exact To.end1 rfl (rv_t rfl)
set_option maxHeartbeats 2000000 in
theorem C_law25_bits {x0 : T_cube_Cube}  {r : (Vector (BitVec 8) 512)} (h : L_law25_bits x0 = some r) : Meets Try.prog 17 [VP.of (x0)] (VP.of (r)) := by
  unfold L_law25_bits at h
  refine Meets.of Try.func17 rfl Try.ntmps17 rfl fun W A => ?_
  refine Wp.seq ?_
  refine Wp.reg ?_
  refine Sq.box (z := (x0 : T_cube_Cube)) (look_t rfl) rfl fun p1 => ?_
  refine Sq.alloc zr36 rfl fun p2 => ?_
  refine Sq.nil ?_
  refine To.next ?_
  refine Wp.seq ?_
  refine Wp.reg ?_
  refine Sq.v (r_fa fd28_0 (look_t rfl)) rfl rfl rfl ?_
  refine Sq.v (r_load (i := 1) ((Lens.id T_cube_Cube).comp le_T_cube_Cube_Value) (r := x0.f_Value) ty26 (look_t rfl) rfl rfl rfl) rfl rfl rfl ?_
  refine Sq.v (r_fa fd28_1 (look_t rfl)) rfl rfl rfl ?_
  refine Sq.v (r_load (i := 1) ((Lens.id T_cube_Cube).comp le_T_cube_Cube_Mask) (r := x0.f_Mask) ty26 (look_t rfl) rfl rfl rfl) rfl rfl rfl ?_
  obtain ⟨y1, hy1, h⟩ := bind_some h
  refine Sq.v (r_call en55 (C_ref25_Read hy1) ⟨look_t rfl, look_t rfl, trivial⟩) rfl rfl rfl ?_
  refine Sq.store (i := 0) (Lens.id (Vector (BitVec 8) 512)) (v := (y1 : Vector (BitVec 8) 512)) (b' := (y1 : Vector (BitVec 8) 512)) ty36 (look_t rfl) (look_t rfl) rfl rfl rfl ?_
  refine Sq.nil ?_
  refine To.next ?_
  refine Wp.ret ?_
  replace h := some_in h
  subst h
  exact To.end1 rfl (rv_c (i := 0) ty36 rfl rfl)
end Go.Proofs.Ytabodolbdalimaa
