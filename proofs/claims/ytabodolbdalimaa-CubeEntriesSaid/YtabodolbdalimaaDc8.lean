/-
  Printed by the decompiler (dec.py) out of the seat's translation. Each function meets its functional program. Conditions: none.
-/
import Derived.Test.YtabodolbdalimaaDc1
import Derived.Test.YtabodolbdalimaaDc4
import Derived.Test.YtabodolbdalimaaDc5
import Derived.Test.YtabodolbdalimaaDc6
namespace Go.Proofs.Ytabodolbdalimaa
open Go Gv
set_option linter.unusedVariables false
set_option linter.unusedSimpArgs false
set_option maxRecDepth 100000
set_option maxHeartbeats 2000000 in
theorem C_mcase_Codes_Point {x0 : T_mcase_Codes} {pp0 : Nat} {r : (Vector T_api_Value 4) × T_mcase_Codes} (h : L_mcase_Codes_Point x0 = some r) : MeetsO Try.prog 46 [VP.eq (.pointer (some ⟨pp0, 0, none⟩))] [⟨some pp0, .var (x0 : T_mcase_Codes)⟩] (δ := Unit) (fun d => VP.of (r.1)) (fun d => [⟨some pp0, .var (r.2 : T_mcase_Codes)⟩]) := by
  unfold L_mcase_Codes_Point at h
  refine MeetsO.of Try.func46 rfl Try.ntmps46 rfl fun W A => ?_
  refine Wp.seq ?_
  refine Wp.reg ?_
  refine Sq.alloc zr26 rfl fun p1 => ?_
  refine Sq.nil ?_
  refine To.next ?_
  refine Wp.seq ?_
  refine Wp.reg ?_
  refine Sq.alloc zr26 rfl fun p2 => ?_
  refine Sq.nil ?_
  refine To.next ?_
  refine Wp.seq ?_
  refine Wp.seq ?_
  refine Wp.reg ?_
  refine Sq.v (r_move (look_int 0)) rfl rfl rfl ?_
  refine Sq.nil ?_
  refine To.next ?_
  refine Wp.block ?_
  obtain ⟨e1, hl, h⟩ := bind_some h
  refine Wp.loopG (σ := Int × (Vector T_api_Value 4) × T_mcase_Codes) (ε := (Int × Bool × (Vector T_api_Value 4) × T_mcase_Codes)) (γ := Unit) (δ := Unit) hl (fun s1 g1 => [(0, VP.eq (.pointer (some ⟨pp0, 0, none⟩))), (2, VP.eq (.pointer (some ⟨p1, 0, none⟩))), (3, VP.eq (.pointer (some ⟨p2, 0, none⟩))), (5, VP.of (s1.1))]) (fun s1 g1 => [⟨some p2, .var (s1.2.1 : Vector T_api_Value 4)⟩, ⟨some p1, .var ((default : Vector T_api_Value 4) : Vector T_api_Value 4)⟩, ⟨some pp0, .var (s1.2.2 : T_mcase_Codes)⟩]) (fun q1 => Exit.exit 0) (fun q1 g1 => [(0, VP.eq (.pointer (some ⟨pp0, 0, none⟩))), (2, VP.eq (.pointer (some ⟨p1, 0, none⟩))), (3, VP.eq (.pointer (some ⟨p2, 0, none⟩))), (5, VP.of (q1.1)), (6, VP.of (q1.2.1))]) (fun q1 g1 => [⟨some p2, .var (q1.2.2.1 : Vector T_api_Value 4)⟩, ⟨some p1, .var ((default : Vector T_api_Value 4) : Vector T_api_Value 4)⟩, ⟨some pp0, .var (q1.2.2.2 : T_mcase_Codes)⟩]) () rfl (.same rfl (.same rfl (.same rfl (.same rfl .nil)))) (fun s1 r h g1 => ?_) (fun g1 => ?_)
  · clear hl
    refine Wp.seq ?_
    refine Wp.reg ?_
    refine Sq.v (r_lss (look_t rfl) (look_int 4)) rfl rfl rfl ?_
    refine Sq.nil ?_
    refine To.next ?_
    refine Wp.seq ?_
    refine Wp.cond (look_t rfl) (fun hc => ?_) (fun hc => ?_)
    · replace h := cond_t hc h
      refine Wp.skip ?_
      refine To.next ?_
      refine Wp.seq ?_
      refine Wp.block ?_
      refine Wp.seq ?_
      refine Wp.reg ?_
      refine Sq.v (r_move (look_t rfl)) rfl rfl rfl ?_
      refine Sq.v (r_asg (look_t rfl)) rfl rfl rfl ?_
      refine Sq.nil ?_
      refine To.next ?_
      refine Wp.seq ?_
      refine Wp.reg ?_
      refine Sq.v (r_move (look_t rfl)) rfl rfl rfl ?_
      refine Sq.v (r_move (look_t rfl)) rfl rfl rfl ?_
      refine Sq.bring 2 rfl ?_
      obtain ⟨y1, hy1, h⟩ := bind_some h
      refine Sq.callO (Lin := [⟨some pp0, .var (s1.2.2 : T_mcase_Codes)⟩]) (Lr := [⟨some p2, .var (s1.2.1 : Vector T_api_Value 4)⟩, ⟨some p1, .var ((default : Vector T_api_Value 4) : Vector T_api_Value 4)⟩]) en72 (C_mcase_Codes_Next hy1) ⟨look_t rfl, look_int 256, trivial⟩ rfl fun q2 => ?_
      refine Sq.v (r_ci64 Try.underlying3 Try.underlying22 (look_t rfl)) rfl rfl rfl ?_
      obtain ⟨z1, hz1, h⟩ := bind_some h
      refine Sq.v ((r_build (b := ({ (default : T_api_Value) with f_Lo := BitVec.ofInt 64 y1.1 } : T_api_Value)) rfl bu24 zr24 (.cons le_T_api_Value_Lo rfl (look_t rfl) rfl (.nil))).as (some_in hz1)) rfl rfl rfl ?_
      obtain ⟨k1, hk1, h⟩ := bind_some h
      refine Sq.v (r_ia (k := k1) ar26 (look_t rfl) (look_t rfl) (idx_some hk1)) rfl rfl rfl ?_
      refine Sq.store (i := 1) ((Lens.id (Vector T_api_Value 4)).comp (Lens.idx (α := T_api_Value) 4 k1 (idx_some hk1).1)) (v := (z1 : T_api_Value)) (b' := (vset s1.2.1 k1 z1 : Vector T_api_Value 4)) ty24 (look_t rfl) (look_t rfl) rfl rfl rfl ?_
      refine Sq.nil ?_
      refine To.next ?_
      refine Wp.seq ?_
      refine Wp.reg ?_
      refine Sq.v (r_move (look_t rfl)) rfl rfl rfl ?_
      refine Sq.bring 0 rfl ?_
      obtain ⟨y2, hy2, h⟩ := bind_some h
      refine Sq.callO (Lin := [⟨some pp0, .var (y1.2 : T_mcase_Codes)⟩]) (Lr := [⟨some p2, .var (vset s1.2.1 k1 z1 : Vector T_api_Value 4)⟩, ⟨some p1, .var ((default : Vector T_api_Value 4) : Vector T_api_Value 4)⟩]) en72 (C_mcase_Codes_Next hy2) ⟨look_t rfl, look_int 4, trivial⟩ rfl fun q3 => ?_
      refine Sq.v (r_eql (look_t rfl) (look_int 1)) rfl rfl rfl ?_
      refine Sq.nil ?_
      refine To.next ?_
      obtain ⟨m1, hm1, h⟩ := bind_some h
      refine Wp.condM (γ := Unit) (fun g2 => [(0, VP.eq (.pointer (some ⟨pp0, 0, none⟩))), (2, VP.eq (.pointer (some ⟨p1, 0, none⟩))), (3, VP.eq (.pointer (some ⟨p2, 0, none⟩))), (4, VP.of (s1.1)), (5, VP.of (s1.1)), (6, VP.of (decide (s1.1 < 4))), (16, VP.of (y2.1 == 1))]) (fun g2 => [⟨some pp0, .var (m1.1 : T_mcase_Codes)⟩, ⟨some p2, .var (m1.2 : Vector T_api_Value 4)⟩, ⟨some p1, .var ((default : Vector T_api_Value 4) : Vector T_api_Value 4)⟩]) (look_t rfl) (fun g2 => ?_) (fun hm hc => ?_) (fun hm hc => ?_)
      · clear hm1
        refine To.bnorm ?_
        refine To.next ?_
        refine Wp.reg ?_
        refine Sq.v (r_add (look_t rfl) (look_int 1)) rfl rfl rfl ?_
        refine Sq.v (r_move (look_t rfl)) rfl rfl rfl ?_
        refine Sq.nil ?_
        refine To.bring 2 rfl ?_
        refine To.bring 2 rfl ?_
        replace h := some_in h
        subst h
        exact To.roundG () 0 rfl (.same rfl (.same rfl (.same rfl (.same rfl .nil))))
      · have h := cond_t hc hm1
        obtain ⟨k2, hk2, h⟩ := bind_some h
        obtain ⟨y3, hy3, h⟩ := bind_some h
        obtain ⟨z2, hz2, h⟩ := bind_some h
        obtain ⟨k3, hk3, h⟩ := bind_some h
        obtain ⟨z3, hz3, h⟩ := bind_some h
        refine Wp.le (E' := [(0, VP.eq (.pointer (some ⟨pp0, 0, none⟩))), (2, VP.eq (.pointer (some ⟨p1, 0, none⟩))), (3, VP.eq (.pointer (some ⟨p2, 0, none⟩))), (4, VP.of (s1.1)), (5, VP.of (s1.1)), (6, VP.of (decide (s1.1 < 4))), (7, VP.of (s1.1)), (8, VP.of (s1.1)), (9, VP.eq (.pointer (some ⟨pp0, 0, none⟩))), (10, VP.of (y1.1)), (11, VP.of (BitVec.ofInt 64 y1.1)), (12, VP.of (z1)), (13, VP.eq (.pointer (some ⟨p2, 0 + k1 * 2, none⟩))), (14, VP.eq (.pointer (some ⟨pp0, 0, none⟩))), (15, VP.of (y2.1)), (16, VP.of (y2.1 == 1))]) (.same rfl (.same rfl (.same rfl (.same rfl (.same rfl (.same rfl (.same rfl (.same rfl (.same rfl (.same rfl (.same rfl (.same rfl (.same rfl (.same rfl (.same rfl (.same rfl .nil)))))))))))))))) ?_
        refine Wp.drawD mixed (⟨some 17, [], [], [], fun _ => VP.of (s1.1), fun _ _ => ⟨none, .dead⟩⟩ :: ⟨some 18, [], [], [], fun _ => VP.of (s1.1), fun _ _ => ⟨none, .dead⟩⟩ :: ⟨some 19, (1 :: []), [], [], fun _ => VP.eq (.pointer (some ⟨p2, 0 + k2 * 2, none⟩)), fun _ _ => ⟨none, .dead⟩⟩ :: ⟨some 20, (2 :: []), [], [], fun _ => VP.eq (.pointer (some ⟨p2, 0 + k2 * 2 + 1, none⟩)), fun _ _ => ⟨none, .dead⟩⟩ :: ⟨some 21, (3 :: []), (1 :: []), [], fun _ => VP.of ((vget (vset s1.2.1 k1 z1) k2).f_Lo), fun _ _ => ⟨none, .dead⟩⟩ :: ⟨some 22, (4 :: []), [], [], fun _ => VP.of (((vget (vset s1.2.1 k1 z1) k2).f_Lo) <<< (24#64).toNat), fun _ _ => ⟨none, .dead⟩⟩ :: ⟨some 23, [], [], [], fun _ => VP.eq (.pointer (some ⟨pp0, 0, none⟩)), fun _ _ => ⟨none, .dead⟩⟩ :: ⟨some 24, (6 :: []), (0 :: []), (0 :: []), fun _ => VP.of (y3.1), fun hd _ => ⟨some pp0, .var (y3.2 : T_mcase_Codes)⟩⟩ :: ⟨some 25, (7 :: []), [], [], fun _ => VP.of (BitVec.ofInt 64 y3.1), fun _ _ => ⟨none, .dead⟩⟩ :: ⟨some 26, (5 :: 8 :: []), [], [], fun _ => VP.of (z2), fun _ _ => ⟨none, .dead⟩⟩ :: ⟨some 27, (0 :: []), [], [], fun _ => VP.eq (.pointer (some ⟨p2, 0 + k3 * 2, none⟩)), fun _ _ => ⟨none, .dead⟩⟩ :: ⟨some 28, (10 :: []), [], [], fun _ => VP.eq (.pointer (some ⟨p2, 0 + k3 * 2 + 1, none⟩)), fun _ _ => ⟨none, .dead⟩⟩ :: ⟨none, (4 :: 9 :: 11 :: []), (1 :: []), (1 :: []), fun _ => VP.any, fun hd _ => ⟨some p2, .var (z3 : Vector T_api_Value 4)⟩⟩ :: []) ((some 17, [], [], []) :: (some 18, [], [], []) :: (some 19, (1 :: []), [], []) :: (some 20, (2 :: []), [], []) :: (some 21, (3 :: []), (1 :: []), []) :: (some 22, (4 :: []), [], []) :: (some 23, [], [], []) :: (some 24, (6 :: []), (0 :: []), (0 :: [])) :: (some 25, (7 :: []), [], []) :: (some 26, (5 :: 8 :: []), [], []) :: (some 27, (0 :: []), [], []) :: (some 28, (10 :: []), [], []) :: (none, (4 :: 9 :: 11 :: []), (1 :: []), (1 :: [])) :: []) (0 :: 2 :: 3 :: 4 :: 5 :: 6 :: 7 :: 8 :: 9 :: 10 :: 11 :: 12 :: 13 :: 14 :: 15 :: 16 :: []) rfl rfl (by kernel_rfl) ⟨?_, ?_, ?_, ?_, ?_, ?_, ?_, ?_, ?_, ?_, ?_, ?_, ?_, trivial⟩ fun hd => ?_
        · exact hd_v rfl rfl rfl fun hd E' L' hE hL => r_move (look_t (hE _ _ rfl))
        · exact hd_v rfl rfl rfl fun hd E' L' hE hL => r_move (look_t (hE _ _ rfl))
        · exact hd_v rfl rfl rfl fun hd E' L' hE hL => r_ia (k := k2) ar26 (look_t (hE _ _ rfl)) (look_t (hE _ _ rfl)) (idx_some hk2)
        · exact hd_v rfl rfl rfl fun hd E' L' hE hL => r_fa fd24_1 (look_t (hE _ _ rfl))
        · exact hd_v rfl rfl rfl fun hd E' L' hE hL => r_load (i := 1) (((Lens.id (Vector T_api_Value 4)).comp (Lens.idx (α := T_api_Value) 4 k2 (idx_some hk2).1)).comp le_T_api_Value_Lo) (r := (vget (vset s1.2.1 k1 z1) k2).f_Lo) ty22 (look_t (hE _ _ rfl)) (hL 1 _ rfl rfl) rfl rfl
        · exact hd_v rfl rfl rfl fun hd E' L' hE hL => r_shl64 (look_t (hE _ _ rfl)) (look_u64 24 rfl)
        · exact hd_v rfl rfl rfl fun hd E' L' hE hL => r_move (look_t (hE _ _ rfl))
        · intro hd E' L' hE hL
          refine Sq.bring 0 (hL 0 _ rfl rfl) ?_
          refine Sq.callO (Lin := [⟨some pp0, .var (y2.2 : T_mcase_Codes)⟩]) (Lr := L'.eraseIdx 0) en72 (C_mcase_Codes_Next hy3) ⟨look_t (hE _ _ rfl), look_int 256, trivial⟩ rfl fun q4 => ?_
          refine Sq.nil ?_
          refine To.back 0 (hL 0 _ rfl rfl) ?_
          exact To.fin (gm []) rfl rfl
        · exact hd_v rfl rfl rfl fun hd E' L' hE hL => r_ci64 Try.underlying3 Try.underlying22 (look_t (hE _ _ rfl))
        · exact hd_v rfl rfl rfl fun hd E' L' hE hL => (r_or64 (look_t (hE _ _ rfl)) (look_t (hE _ _ rfl))).as (some_in hz2)
        · exact hd_v rfl rfl rfl fun hd E' L' hE hL => r_ia (k := k3) ar26 (look_t (hE _ _ rfl)) (look_t (hE _ _ rfl)) (idx_some hk3)
        · exact hd_v rfl rfl rfl fun hd E' L' hE hL => r_fa fd24_1 (look_t (hE _ _ rfl))
        · intro hd E' L' hE hL
          refine Sq.store (i := 1) (((Lens.id (Vector T_api_Value 4)).comp (Lens.idx (α := T_api_Value) 4 k3 (idx_some hk3).1)).comp le_T_api_Value_Lo) (v := (z2 : BitVec 64)) (b' := (z3 : Vector T_api_Value 4)) ty22 (look_t (hE _ _ rfl)) (look_t (hE _ _ rfl)) (hL 1 _ rfl rfl) rfl (some_in hz3) ?_
          refine Sq.nil ?_
          exact To.fin (gm []) rfl rfl
        refine To.eqL (L2 := [⟨some pp0, .var (y3.2 : T_mcase_Codes)⟩, ⟨some p2, .var (z3 : Vector T_api_Value 4)⟩, ⟨some p1, .var ((default : Vector T_api_Value 4) : Vector T_api_Value 4)⟩]) rfl ?_
        refine To.le (E' := [(0, VP.eq (.pointer (some ⟨pp0, 0, none⟩))), (2, VP.eq (.pointer (some ⟨p1, 0, none⟩))), (3, VP.eq (.pointer (some ⟨p2, 0, none⟩))), (4, VP.of (s1.1)), (5, VP.of (s1.1)), (6, VP.of (decide (s1.1 < 4))), (7, VP.of (s1.1)), (8, VP.of (s1.1)), (9, VP.eq (.pointer (some ⟨pp0, 0, none⟩))), (10, VP.of (y1.1)), (11, VP.of (BitVec.ofInt 64 y1.1)), (12, VP.of (z1)), (13, VP.eq (.pointer (some ⟨p2, 0 + k1 * 2, none⟩))), (14, VP.eq (.pointer (some ⟨pp0, 0, none⟩))), (15, VP.of (y2.1)), (16, VP.of (y2.1 == 1)), (17, VP.of (s1.1)), (18, VP.of (s1.1)), (19, VP.eq (.pointer (some ⟨p2, 0 + k2 * 2, none⟩))), (20, VP.eq (.pointer (some ⟨p2, 0 + k2 * 2 + 1, none⟩))), (21, VP.of ((vget (vset s1.2.1 k1 z1) k2).f_Lo)), (22, VP.of (((vget (vset s1.2.1 k1 z1) k2).f_Lo) <<< (24#64).toNat)), (23, VP.eq (.pointer (some ⟨pp0, 0, none⟩))), (24, VP.of (y3.1)), (25, VP.of (BitVec.ofInt 64 y3.1)), (26, VP.of (z2)), (27, VP.eq (.pointer (some ⟨p2, 0 + k3 * 2, none⟩))), (28, VP.eq (.pointer (some ⟨p2, 0 + k3 * 2 + 1, none⟩)))]) (.same rfl (.same rfl (.same rfl (.same rfl (.same rfl (.same rfl (.same rfl (.same rfl (.same rfl (.same rfl (.same rfl (.same rfl (.same rfl (.same rfl (.same rfl (.same rfl (.same rfl (.same rfl (.same rfl (.same rfl (.same rfl (.same rfl (.same rfl (.same rfl (.same rfl (.same rfl (.same rfl (.same rfl .nil)))))))))))))))))))))))))))) ?_
        replace h := some_in h
        subst h
        exact To.meet 0 rfl (.same rfl (.same rfl (.same rfl (.same rfl (.same rfl (.same rfl (.same rfl .nil))))))) (hm ())
      · have h := cond_f hc hm1
        refine Wp.skip ?_
        replace h := some_in h
        subst h
        exact To.meet 0 rfl (.same rfl (.same rfl (.same rfl (.same rfl (.same rfl (.same rfl (.same rfl .nil))))))) (hm ())
    · replace h := cond_f hc h
      refine Wp.exit ?_
      refine To.exit ?_
      replace h := some_in h
      subst h
      exact To.leaveG () 0 rfl (by simp) rfl (.same rfl (.same rfl (.same rfl (.same rfl (.same rfl .nil)))))
  · clear hl
    refine To.bexit ?_
    refine To.next ?_
    refine Wp.seq ?_
    refine Wp.reg ?_
    refine Sq.v (r_load (i := 0) (Lens.id (Vector T_api_Value 4)) (r := e1.2.2.1) ty26 (look_t rfl) rfl rfl rfl) rfl rfl rfl ?_
    refine Sq.store (i := 1) (Lens.id (Vector T_api_Value 4)) (v := (e1.2.2.1 : Vector T_api_Value 4)) (b' := (e1.2.2.1 : Vector T_api_Value 4)) ty26 (look_t rfl) (look_t rfl) rfl rfl rfl ?_
    refine Sq.nil ?_
    refine To.next ?_
    refine Wp.ret ?_
    refine To.bring 2 rfl ?_
    replace h := some_in h
    subst h
    exact To.endO1 () (.cons_cons _ (List.nil_sublist _)) rfl rfl (rvo_c (i := 2) ty26 rfl rfl)
set_option maxHeartbeats 2000000 in
theorem C_entry_table {x0 : T_api_Schema} {x1 : T_api_Entry}  {r : T_api_Table × Bool} (h : L_entry_table x0 x1 = some r) : Meets Try.prog 86 [VP.of (x0), VP.of (x1)] (VP.tup [VP.of (r.1), VP.of (r.2)]) := by
  unfold L_entry_table at h
  refine Meets.of Try.func86 rfl Try.ntmps86 rfl fun W A => ?_
  refine Wp.seq ?_
  refine Wp.reg ?_
  refine Sq.box (z := (x0 : T_api_Schema)) (look_t rfl) rfl fun p1 => ?_
  refine Sq.box (z := (x1 : T_api_Entry)) (look_t rfl) rfl fun p2 => ?_
  refine Sq.alloc zr97 rfl fun p3 => ?_
  refine Sq.v (r_asg (look_bool false)) rfl rfl rfl ?_
  refine Sq.nil ?_
  refine To.next ?_
  refine Wp.seq ?_
  refine Wp.reg ?_
  refine Sq.v (r_load (i := 2) (Lens.id T_api_Schema) (r := x0) ty84 (look_t rfl) rfl rfl rfl) rfl rfl rfl ?_
  refine Sq.v (r_fa fd91_0 (look_t rfl)) rfl rfl rfl ?_
  refine Sq.v (r_load (i := 1) ((Lens.id T_api_Entry).comp le_T_api_Entry_Table) (r := x1.f_Table) ty3 (look_t rfl) rfl rfl rfl) rfl rfl rfl ?_
  obtain ⟨y1, hy1, h⟩ := bind_some h
  refine Sq.v (r_call en80 (C_check_TableOf hy1) ⟨look_t rfl, look_t rfl, trivial⟩) rfl rfl rfl ?_
  refine Sq.v (r_asg (look_t rfl)) rfl rfl rfl ?_
  refine Sq.nil ?_
  refine To.next ?_
  refine Wp.seq ?_
  refine Wp.seq ?_
  refine Wp.reg ?_
  refine Sq.v (r_move (look_t rfl)) rfl rfl rfl ?_
  refine Sq.v (r_lss (look_t rfl) (look_int 0)) rfl rfl rfl ?_
  refine Sq.nil ?_
  refine To.next ?_
  refine Wp.cond (look_t rfl) (fun hc => ?_) (fun hc => ?_)
  · replace h := cond_t hc h
    refine Wp.seq ?_
    refine Wp.reg ?_
    refine Sq.v (r_build (b := (default : T_api_Table)) rfl bu97 zr97 (.nil)) rfl rfl rfl ?_
    refine Sq.store (i := 0) (Lens.id T_api_Table) (v := ((default : T_api_Table) : T_api_Table)) (b' := ((default : T_api_Table) : T_api_Table)) ty97 (look_t rfl) (look_t rfl) rfl rfl rfl ?_
    refine Sq.v (r_asg (look_bool false)) rfl rfl rfl ?_
    refine Sq.nil ?_
    refine To.next ?_
    refine Wp.ret ?_
    refine To.ret ?_
    replace h := some_in h
    subst h
    exact To.end2 rfl (rv_c (i := 0) ty97 rfl rfl) (rv_t rfl)
  · replace h := cond_f hc h
    refine Wp.skip ?_
    refine To.next ?_
    refine Wp.seq ?_
    refine Wp.reg ?_
    refine Sq.v (r_fa fd84_4 (look_t rfl)) rfl rfl rfl ?_
    refine Sq.v (r_load (i := 2) ((Lens.id T_api_Schema).comp le_T_api_Schema_Tables) (r := x0.f_Tables) ty79 (look_t rfl) rfl rfl rfl) rfl rfl rfl ?_
    refine Sq.v (r_move (look_t rfl)) rfl rfl rfl ?_
    obtain ⟨k1, hk1, h⟩ := bind_some h
    refine Sq.v (r_ias (k := k1) Try.underlying79 ty97 (look_t rfl) (look_t rfl) (idx_some hk1)) rfl rfl rfl ?_
    refine Sq.v (r_loadp ty97 (look_t rfl)) rfl rfl rfl ?_
    refine Sq.store (i := 0) (Lens.id T_api_Table) (v := (lget x0.f_Tables k1 : T_api_Table)) (b' := (lget x0.f_Tables k1 : T_api_Table)) ty97 (look_t rfl) (look_t rfl) rfl rfl rfl ?_
    refine Sq.v (r_asg (look_bool true)) rfl rfl rfl ?_
    refine Sq.nil ?_
    refine To.next ?_
    refine Wp.ret ?_
    replace h := some_in h
    subst h
    exact To.end2 rfl (rv_c (i := 0) ty97 rfl rfl) (rv_t rfl)
set_option maxHeartbeats 2000000 in
theorem C_entry_bitsOf {x0 : T_api_Schema} {x1 : T_api_Key}  {r : Int} (h : L_entry_bitsOf x0 x1 = some r) : Meets Try.prog 88 [VP.of (x0), VP.of (x1)] (VP.of (r)) := by
  unfold L_entry_bitsOf at h
  refine Meets.of Try.func88 rfl Try.ntmps88 rfl fun W A => ?_
  refine Wp.seq ?_
  refine Wp.reg ?_
  refine Sq.box (z := (x0 : T_api_Schema)) (look_t rfl) rfl fun p1 => ?_
  refine Sq.box (z := (x1 : T_api_Key)) (look_t rfl) rfl fun p2 => ?_
  refine Sq.v (r_asg (look_int 0)) rfl rfl rfl ?_
  refine Sq.nil ?_
  refine To.next ?_
  refine Wp.seq ?_
  refine Wp.reg ?_
  refine Sq.v (r_load (i := 1) (Lens.id T_api_Schema) (r := x0) ty84 (look_t rfl) rfl rfl rfl) rfl rfl rfl ?_
  refine Sq.v (r_fa fd139_1 (look_t rfl)) rfl rfl rfl ?_
  refine Sq.v (r_load (i := 0) ((Lens.id T_api_Key).comp le_T_api_Key_Field) (r := x1.f_Field) ty3 (look_t rfl) rfl rfl rfl) rfl rfl rfl ?_
  obtain ⟨y1, hy1, h⟩ := bind_some h
  refine Sq.v (r_call en81 (C_check_FieldOf hy1) ⟨look_t rfl, look_t rfl, trivial⟩) rfl rfl rfl ?_
  refine Sq.v (r_asg (look_t rfl)) rfl rfl rfl ?_
  refine Sq.nil ?_
  refine To.next ?_
  refine Wp.seq ?_
  refine Wp.seq ?_
  refine Wp.reg ?_
  refine Sq.v (r_move (look_t rfl)) rfl rfl rfl ?_
  refine Sq.v (r_lss (look_t rfl) (look_int 0)) rfl rfl rfl ?_
  refine Sq.nil ?_
  refine To.next ?_
  refine Wp.cond (look_t rfl) (fun hc => ?_) (fun hc => ?_)
  · replace h := cond_t hc h
    refine Wp.seq ?_
    refine Wp.reg ?_
    refine Sq.v (r_asg (look_int 0)) rfl rfl rfl ?_
    refine Sq.nil ?_
    refine To.next ?_
    refine Wp.ret ?_
    refine To.ret ?_
    replace h := some_in h
    subst h
    exact To.end1 rfl (rv_t rfl)
  · replace h := cond_f hc h
    refine Wp.skip ?_
    refine To.next ?_
    refine Wp.seq ?_
    refine Wp.reg ?_
    refine Sq.v (r_fa fd84_0 (look_t rfl)) rfl rfl rfl ?_
    refine Sq.v (r_load (i := 1) ((Lens.id T_api_Schema).comp le_T_api_Schema_Fields) (r := x0.f_Fields) ty75 (look_t rfl) rfl rfl rfl) rfl rfl rfl ?_
    refine Sq.v (r_move (look_t rfl)) rfl rfl rfl ?_
    obtain ⟨k1, hk1, h⟩ := bind_some h
    refine Sq.v (r_ias (k := k1) Try.underlying75 ty127 (look_t rfl) (look_t rfl) (idx_some hk1)) rfl rfl rfl ?_
    refine Sq.v (r_fap le_T_api_Field_Bits fd127_2 (look_t rfl) rfl rfl) rfl rfl rfl ?_
    refine Sq.v (r_loadp ty3 (look_t rfl)) rfl rfl rfl ?_
    refine Sq.v (r_asg (look_t rfl)) rfl rfl rfl ?_
    refine Sq.nil ?_
    refine To.next ?_
    refine Wp.ret ?_
    replace h := some_in h
    subst h
    exact To.end1 rfl (rv_t rfl)
set_option maxHeartbeats 2000000 in
theorem C_value_Not {x0 : T_api_Value} {x1 : Int}  {r : T_api_Value} (h : L_value_Not x0 x1 = some r) : Meets Try.prog 89 [VP.of (x0), VP.of (x1)] (VP.of (r)) := by
  unfold L_value_Not at h
  refine Meets.of Try.func89 rfl Try.ntmps89 rfl fun W A => ?_
  refine Wp.seq ?_
  refine Wp.reg ?_
  refine Sq.box (z := (x0 : T_api_Value)) (look_t rfl) rfl fun p1 => ?_
  refine Sq.alloc zr24 rfl fun p2 => ?_
  refine Sq.nil ?_
  refine To.next ?_
  refine Wp.seq ?_
  obtain ⟨y1, hy1, h⟩ := bind_some h
  obtain ⟨y2, hy2, h⟩ := bind_some h
  refine Wp.draw mixed 10 [some 5, some 6, some 7, some 8, some 9, some 10, some 11, some 12, some 13, some 14] [[], [0], [], [2], [3], [], [5], [6], [4, 7], [1, 8]] [.val (VP.of (x1)), .val (VP.of (y1)), .val (VP.eq (.pointer (some ⟨p1, 0 + 0, none⟩))), .val (VP.of (x0.f_Hi)), .val (VP.of (~~~x0.f_Hi)), .val (VP.eq (.pointer (some ⟨p1, 0 + 1, none⟩))), .val (VP.of (x0.f_Lo)), .val (VP.of (~~~x0.f_Lo)), .val (VP.of ({ f_Hi := ~~~x0.f_Hi, f_Lo := ~~~x0.f_Lo : T_api_Value })), .val (VP.of (y2))] [false, false, false, false, false, false, false, false, false, false] (by kernel_rfl) rfl rfl rfl (fun ps1 => ⟨fun L' hL => HO.v (r_move (look_t rfl)) rfl, fun L' hL => HO.v (r_call en106 (C_value_Ones hy1) ⟨look_t rfl, trivial⟩) rfl, fun L' hL => HO.v (r_fa fd24_0 (look_t rfl)) rfl, fun L' hL => HO.v (r_load (i := 1) ((Lens.id T_api_Value).comp le_T_api_Value_Hi) (r := x0.f_Hi) ty22 (look_t rfl) (hL _ _ rfl rfl) rfl rfl) rfl, fun L' hL => HO.v (r_com64 (look_t rfl)) rfl, fun L' hL => HO.v (r_fa fd24_1 (look_t rfl)) rfl, fun L' hL => HO.v (r_load (i := 1) ((Lens.id T_api_Value).comp le_T_api_Value_Lo) (r := x0.f_Lo) ty22 (look_t rfl) (hL _ _ rfl rfl) rfl rfl) rfl, fun L' hL => HO.v (r_com64 (look_t rfl)) rfl, fun L' hL => HO.v (r_build (b := { f_Hi := ~~~x0.f_Hi, f_Lo := ~~~x0.f_Lo : T_api_Value }) rfl bu24 zr24 (.cons le_T_api_Value_Hi rfl (look_t rfl) rfl (.cons le_T_api_Value_Lo rfl (look_t rfl) rfl (.nil)))) rfl, fun L' hL => HO.v (r_call en56 (C_value_And hy2) ⟨look_t rfl, look_t rfl, trivial⟩) rfl, trivial⟩) fun ps1 => ?_
  refine Sq.store (i := 0) (Lens.id T_api_Value) (v := (y2 : T_api_Value)) (b' := (y2 : T_api_Value)) ty24 (look_t rfl) (look_t rfl) rfl rfl rfl ?_
  refine Sq.nil ?_
  refine To.next ?_
  refine Wp.ret ?_
  replace h := some_in h
  subst h
  exact To.end1 rfl (rv_c (i := 0) ty24 rfl rfl)
set_option maxHeartbeats 2000000 in
theorem C_cube_has {x0 : Vector T_api_Value 4} {x1 : Int}  {r : Bool} (h : L_cube_has x0 x1 = some r) : Meets Try.prog 54 [VP.of (x0), VP.of (x1)] (VP.of (r)) := by
  unfold L_cube_has at h
  refine Meets.of Try.func54 rfl Try.ntmps54 rfl fun W A => ?_
  refine Wp.seq ?_
  refine Wp.reg ?_
  refine Sq.box (z := (x0 : Vector T_api_Value 4)) (look_t rfl) rfl fun p1 => ?_
  refine Sq.v (r_asg (look_bool false)) rfl rfl rfl ?_
  refine Sq.nil ?_
  refine To.next ?_
  refine Wp.seq ?_
  refine Wp.reg ?_
  refine Sq.v (r_move (look_t rfl)) rfl rfl rfl ?_
  obtain ⟨y1, hy1, h⟩ := bind_some h
  refine Sq.v (r_call en59 (C_cube_place hy1) ⟨look_t rfl, trivial⟩) rfl rfl rfl ?_
  refine Sq.v (r_move (look_t rfl)) rfl rfl rfl ?_
  refine Sq.v (r_ext (look_t rfl) rfl) rfl rfl rfl ?_
  refine Sq.v (r_ext (look_t rfl) rfl) rfl rfl rfl ?_
  refine Sq.v (r_asg (look_t rfl)) rfl rfl rfl ?_
  refine Sq.v (r_asg (look_t rfl)) rfl rfl rfl ?_
  refine Sq.nil ?_
  refine To.next ?_
  refine Wp.seq ?_
  refine Wp.reg ?_
  refine Sq.v (r_move (look_t rfl)) rfl rfl rfl ?_
  obtain ⟨k1, hk1, h⟩ := bind_some h
  refine Sq.v (r_ia (k := k1) ar26 (look_t rfl) (look_t rfl) (idx_some hk1)) rfl rfl rfl ?_
  refine Sq.v (r_load (i := 0) ((Lens.id (Vector T_api_Value 4)).comp (Lens.idx (α := T_api_Value) 4 k1 (idx_some hk1).1)) (r := vget x0 k1) ty24 (look_t rfl) rfl rfl rfl) rfl rfl rfl ?_
  refine Sq.v (r_move (look_t rfl)) rfl rfl rfl ?_
  obtain ⟨y2, hy2, h⟩ := bind_some h
  refine Sq.v (r_call en90 (C_value_Bit hy2) ⟨look_t rfl, look_t rfl, trivial⟩) rfl rfl rfl ?_
  refine Sq.v (r_asg (look_t rfl)) rfl rfl rfl ?_
  refine Sq.nil ?_
  refine To.next ?_
  refine Wp.ret ?_
  replace h := some_in h
  subst h
  exact To.end1 rfl (rv_t rfl)
end Go.Proofs.Ytabodolbdalimaa
