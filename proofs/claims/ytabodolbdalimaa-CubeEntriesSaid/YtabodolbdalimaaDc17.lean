/-
  Printed by the decompiler (dec.py) out of the seat's translation. Each function meets its functional program. Conditions: none.
-/
import Derived.Test.YtabodolbdalimaaDc5
import Derived.Test.YtabodolbdalimaaDc6
import Derived.Test.YtabodolbdalimaaDc8
import Derived.Test.YtabodolbdalimaaDc14
namespace Go.Proofs.Ytabodolbdalimaa
open Go Gv
set_option linter.unusedVariables false
set_option linter.unusedSimpArgs false
set_option maxRecDepth 100000
set_option maxHeartbeats 2000000 in
theorem C_ref25_Of {x0 : T_api_Schema} {x1 : T_api_Entry}  {r : (Vector (BitVec 8) 512) × Bool} (h : L_ref25_Of x0 x1 = some r) : Meets Try.prog 45 [VP.of (x0), VP.of (x1)] (VP.tup [VP.of (r.1), VP.of (r.2)]) := by
  unfold L_ref25_Of at h
  refine Meets.of Try.func45 rfl Try.ntmps45 rfl fun W A => ?_
  refine Wp.seq ?_
  refine Wp.reg ?_
  refine Sq.box (z := (x0 : T_api_Schema)) (look_t rfl) rfl fun p1 => ?_
  refine Sq.box (z := (x1 : T_api_Entry)) (look_t rfl) rfl fun p2 => ?_
  refine Sq.alloc zr36 rfl fun p3 => ?_
  refine Sq.v (r_asg (look_bool false)) rfl rfl rfl ?_
  refine Sq.nil ?_
  refine To.next ?_
  refine Wp.seq ?_
  refine Wp.reg ?_
  refine Sq.v (r_load (i := 2) (Lens.id T_api_Schema) (r := x0) ty84 (look_t rfl) rfl rfl rfl) rfl rfl rfl ?_
  refine Sq.v (r_fa fd91_0 (look_t rfl)) rfl rfl rfl ?_
  refine Sq.v (r_load (i := 1) ((Lens.id T_api_Entry).comp le_T_api_Entry_Table) (r := x1.f_Table) ty3 (look_t rfl) rfl rfl rfl) rfl rfl rfl ?_
  obtain ⟨y1, hy1, h⟩ := bind_some h
  refine Sq.v (r_call en83 (C_ref04_TableOf hy1) ⟨look_t rfl, look_t rfl, trivial⟩) rfl rfl rfl ?_
  refine Sq.v (r_asg (look_t rfl)) rfl rfl rfl ?_
  refine Sq.nil ?_
  refine To.next ?_
  refine Wp.seq ?_
  refine Wp.reg ?_
  refine Sq.alloc zr26 rfl fun p4 => ?_
  refine Sq.alloc zr26 rfl fun p5 => ?_
  refine Sq.nil ?_
  refine To.next ?_
  refine Wp.seq ?_
  refine Wp.seq ?_
  refine Wp.reg ?_
  refine Sq.v (r_move (look_t rfl)) rfl rfl rfl ?_
  refine Sq.v (r_lss (look_t rfl) (look_int 0)) rfl rfl rfl ?_
  refine Sq.nil ?_
  refine To.next ?_
  refine Wp.cond (look_t rfl) (fun hc => ?_) (fun hc => ?_)
  · replace h := cond_t hc h
    refine Wp.seq ?_
    refine Wp.reg ?_
    refine Sq.v (r_buildA (b := (default : Vector (BitVec 8) 512)) (sz := 1) rfl Try.underlying36 (by kernel_rfl) zr36 (.nil)) rfl rfl rfl ?_
    refine Sq.store (i := 2) (Lens.id (Vector (BitVec 8) 512)) (v := ((default : Vector (BitVec 8) 512) : Vector (BitVec 8) 512)) (b' := ((default : Vector (BitVec 8) 512) : Vector (BitVec 8) 512)) ty36 (look_t rfl) (look_t rfl) rfl rfl rfl ?_
    refine Sq.v (r_asg (look_bool false)) rfl rfl rfl ?_
    refine Sq.nil ?_
    refine To.next ?_
    refine Wp.ret ?_
    refine To.ret ?_
    replace h := some_in h
    subst h
    exact To.end2 rfl (rv_c (i := 2) ty36 rfl rfl) (rv_t rfl)
  · replace h := cond_f hc h
    refine Wp.skip ?_
    refine To.next ?_
    refine Wp.seq ?_
    refine Wp.seq ?_
    refine Wp.reg ?_
    refine Sq.v (r_fa fd84_4 (look_t rfl)) rfl rfl rfl ?_
    refine Sq.v (r_load (i := 4) ((Lens.id T_api_Schema).comp le_T_api_Schema_Tables) (r := x0.f_Tables) ty79 (look_t rfl) rfl rfl rfl) rfl rfl rfl ?_
    refine Sq.v (r_move (look_t rfl)) rfl rfl rfl ?_
    obtain ⟨k1, hk1, h⟩ := bind_some h
    refine Sq.v (r_ias (k := k1) Try.underlying79 ty97 (look_t rfl) (look_t rfl) (idx_some hk1)) rfl rfl rfl ?_
    refine Sq.v (r_fap le_T_api_Table_Keys fd97_2 (look_t rfl) rfl rfl) rfl rfl rfl ?_
    refine Sq.v (r_loadp ty95 (look_t rfl)) rfl rfl rfl ?_
    refine Sq.v (r_len Try.underlying95 (look_t rfl)) rfl rfl rfl ?_
    refine Sq.v (r_move (look_int 0)) rfl rfl rfl ?_
    refine Sq.nil ?_
    refine To.next ?_
    refine Wp.block ?_
    obtain ⟨e1, hl, h⟩ := bind_some h
    refine Wp.loopG (σ := Int × (Vector T_api_Value 4) × (Vector T_api_Value 4)) (ε := (Int × Bool × (Vector T_api_Value 4) × (Vector T_api_Value 4)) ⊕ (Int × Int × Int × Bool × Bool × (Vector T_api_Value 4) × (Vector T_api_Value 4))) (γ := Unit) (δ := Unit) hl (fun s1 g1 => [(0, VP.of (x0)), (1, VP.of (x1)), (2, VP.eq (.pointer (some ⟨p1, 0, none⟩))), (3, VP.eq (.pointer (some ⟨p2, 0, none⟩))), (4, VP.eq (.pointer (some ⟨p3, 0, none⟩))), (5, VP.of (false)), (6, VP.of (y1)), (7, VP.eq (.pointer (some ⟨p4, 0, none⟩))), (8, VP.eq (.pointer (some ⟨p5, 0, none⟩))), (18, VP.of (decide (y1 < 0))), (25, VP.of ((lget x0.f_Tables k1).f_Keys)), (26, VP.of (((lget x0.f_Tables k1).f_Keys).length : Int)), (27, VP.of (s1.1))]) (fun s1 g1 => [⟨some p5, .var (s1.2.1 : Vector T_api_Value 4)⟩, ⟨some p4, .var (s1.2.2 : Vector T_api_Value 4)⟩, ⟨some p3, .var ((default : Vector (BitVec 8) 512) : Vector (BitVec 8) 512)⟩, ⟨some p2, .var (x1 : T_api_Entry)⟩, ⟨some p1, .var (x0 : T_api_Schema)⟩]) (fun q1 => Sum.elim (fun q1 => Exit.exit 0) (fun q1 => Exit.ret) q1) (fun q1 g1 => Sum.elim (fun q1 => [(0, VP.of (x0)), (1, VP.of (x1)), (2, VP.eq (.pointer (some ⟨p1, 0, none⟩))), (3, VP.eq (.pointer (some ⟨p2, 0, none⟩))), (4, VP.eq (.pointer (some ⟨p3, 0, none⟩))), (5, VP.of (false)), (6, VP.of (y1)), (7, VP.eq (.pointer (some ⟨p4, 0, none⟩))), (8, VP.eq (.pointer (some ⟨p5, 0, none⟩))), (18, VP.of (decide (y1 < 0))), (25, VP.of ((lget x0.f_Tables k1).f_Keys)), (26, VP.of (((lget x0.f_Tables k1).f_Keys).length : Int)), (27, VP.of (q1.1)), (28, VP.of (q1.2.1))]) (fun q1 => [(0, VP.of (x0)), (1, VP.of (x1)), (2, VP.eq (.pointer (some ⟨p1, 0, none⟩))), (3, VP.eq (.pointer (some ⟨p2, 0, none⟩))), (4, VP.eq (.pointer (some ⟨p3, 0, none⟩))), (5, VP.of (false)), (6, VP.of (y1)), (7, VP.eq (.pointer (some ⟨p4, 0, none⟩))), (8, VP.eq (.pointer (some ⟨p5, 0, none⟩))), (9, VP.of (q1.1)), (12, VP.of (q1.2.1)), (18, VP.of (decide (y1 < 0))), (25, VP.of ((lget x0.f_Tables k1).f_Keys)), (26, VP.of (((lget x0.f_Tables k1).f_Keys).length : Int)), (27, VP.of (q1.2.2.1)), (28, VP.of (q1.2.2.2.1)), (49, VP.of (q1.2.2.2.2.1))]) q1) (fun q1 g1 => Sum.elim (fun q1 => [⟨some p5, .var (q1.2.2.1 : Vector T_api_Value 4)⟩, ⟨some p4, .var (q1.2.2.2 : Vector T_api_Value 4)⟩, ⟨some p3, .var ((default : Vector (BitVec 8) 512) : Vector (BitVec 8) 512)⟩, ⟨some p2, .var (x1 : T_api_Entry)⟩, ⟨some p1, .var (x0 : T_api_Schema)⟩]) (fun q1 => [⟨some p5, .var (q1.2.2.2.2.2.1 : Vector T_api_Value 4)⟩, ⟨some p4, .var (q1.2.2.2.2.2.2 : Vector T_api_Value 4)⟩, ⟨some p3, .var ((default : Vector (BitVec 8) 512) : Vector (BitVec 8) 512)⟩, ⟨some p2, .var (x1 : T_api_Entry)⟩, ⟨some p1, .var (x0 : T_api_Schema)⟩]) q1) () rfl (.same rfl (.same rfl (.same rfl (.same rfl (.same rfl (.same rfl (.same rfl (.same rfl (.same rfl (.same rfl (.same rfl (.same rfl (.same rfl .nil))))))))))))) (fun s1 r h g1 => ?_) (fun g1 => ?_)
    · clear hl
      refine Wp.seq ?_
      refine Wp.reg ?_
      refine Sq.v (r_lss (look_t rfl) (look_t rfl)) rfl rfl rfl ?_
      refine Sq.nil ?_
      refine To.next ?_
      refine Wp.seq ?_
      refine Wp.cond (look_t rfl) (fun hc => ?_) (fun hc => ?_)
      · replace h := cond_t hc h
        refine Wp.skip ?_
        refine To.next ?_
        refine Wp.seq ?_
        refine Wp.block ?_
        refine Wp.seq ?_
        refine Wp.reg ?_
        refine Sq.v (r_move (look_t rfl)) rfl rfl rfl ?_
        obtain ⟨k2, hk2, h⟩ := bind_some h
        refine Sq.v (r_ias (k := k2) Try.underlying95 ty139 (look_t rfl) (look_t rfl) (idx_some hk2)) rfl rfl rfl ?_
        refine Sq.v (r_loadp ty139 (look_t rfl)) rfl rfl rfl ?_
        refine Sq.alloc zr139 rfl fun p6 => ?_
        refine Sq.v (r_asg (look_t rfl)) rfl rfl rfl ?_
        refine Sq.store (i := 0) (Lens.id T_api_Key) (v := (lget ((lget x0.f_Tables k1).f_Keys) k2 : T_api_Key)) (b' := (lget ((lget x0.f_Tables k1).f_Keys) k2 : T_api_Key)) ty139 (look_t rfl) (look_t rfl) rfl rfl rfl ?_
        refine Sq.nil ?_
        refine To.next ?_
        refine Wp.seq ?_
        obtain ⟨k3, hk3, h⟩ := bind_some h
        obtain ⟨k4, hk4, h⟩ := bind_some h
        obtain ⟨y2, hy2, h⟩ := bind_some h
        refine Wp.draw mixed 14 [some 32, some 33, some 34, some 35, some 36, some 37, some 38, some 39, some 40, some 41, some 42, some 43, some 44, some 11] [[], [0], [], [1, 2], [3], [], [], [6], [], [7, 8], [9], [], [5, 10, 11], []] [.val (VP.eq (.pointer (some ⟨p2, 0 + 1, none⟩))), .val (VP.of (x1.f_Matches)), .val (VP.of (s1.1)), .val (VP.ptr (lget x1.f_Matches k3)), .val (VP.of (lget x1.f_Matches k3)), .val (VP.of (x0)), .val (VP.eq (.pointer (some ⟨p1, 0 + 4, none⟩))), .val (VP.of (x0.f_Tables)), .val (VP.of (y1)), .val (VP.ptr (lget x0.f_Tables k4)), .val (VP.of (lget x0.f_Tables k4)), .val (VP.of (s1.1)), .val (VP.of (y2)), .new (.var (default : T_api_Match))] [false, false, false, false, false, false, false, false, false, false, false, false, false, false] (by kernel_rfl) rfl rfl rfl (fun ps1 => ⟨fun L' hL => HO.v (r_fa fd91_1 (look_t rfl)) rfl, fun L' hL => HO.v (r_load (i := 4) ((Lens.id T_api_Entry).comp le_T_api_Entry_Matches) (r := x1.f_Matches) ty88 (look_t rfl) (hL _ _ rfl rfl) rfl rfl) rfl, fun L' hL => HO.v (r_move (look_t rfl)) rfl, fun L' hL => HO.v (r_ias (k := k3) Try.underlying88 ty141 (look_t rfl) (look_t rfl) (idx_some hk3)) rfl, fun L' hL => HO.v (r_loadp ty141 (look_t rfl)) rfl, fun L' hL => HO.v (r_load (i := 5) (Lens.id T_api_Schema) (r := x0) ty84 (look_t rfl) (hL _ _ rfl rfl) rfl rfl) rfl, fun L' hL => HO.v (r_fa fd84_4 (look_t rfl)) rfl, fun L' hL => HO.v (r_load (i := 5) ((Lens.id T_api_Schema).comp le_T_api_Schema_Tables) (r := x0.f_Tables) ty79 (look_t rfl) (hL _ _ rfl rfl) rfl rfl) rfl, fun L' hL => HO.v (r_move (look_t rfl)) rfl, fun L' hL => HO.v (r_ias (k := k4) Try.underlying79 ty97 (look_t rfl) (look_t rfl) (idx_some hk4)) rfl, fun L' hL => HO.v (r_loadp ty97 (look_t rfl)) rfl, fun L' hL => HO.v (r_move (look_t rfl)) rfl, fun L' hL => HO.v (r_call en49 (C_ref04_KeyBits hy2) ⟨look_t rfl, look_t rfl, look_t rfl, trivial⟩) rfl, ao_alloc zr141, trivial⟩) fun ps1 => ?_
        refine Sq.store (i := 0) (Lens.id T_api_Match) (v := (lget x1.f_Matches k3 : T_api_Match)) (b' := (lget x1.f_Matches k3 : T_api_Match)) ty141 (look_t rfl) (look_t rfl) rfl rfl rfl ?_
        refine Sq.v (r_asg (look_t rfl)) rfl rfl rfl ?_
        refine Sq.nil ?_
        refine To.next ?_
        refine Wp.seq ?_
        refine Wp.block ?_
        refine Wp.seq ?_
        refine Wp.reg ?_
        refine Sq.v (r_fa fd139_2 (look_t rfl)) rfl rfl rfl ?_
        refine Sq.v (r_load (i := 1) ((Lens.id T_api_Key).comp le_T_api_Key_Kind) (r := (lget ((lget x0.f_Tables k1).f_Keys) k2).f_Kind) ty3 (look_t rfl) rfl rfl rfl) rfl rfl rfl ?_
        refine Sq.v (r_eql (look_t rfl) (look_int 4)) rfl rfl rfl ?_
        refine Sq.v (r_asg (look_t rfl)) rfl rfl rfl ?_
        refine Sq.nil ?_
        refine To.next ?_
        refine Wp.cond (look_t rfl) (fun hc => ?_) (fun hc => ?_)
        · replace h := cond_t hc h
          refine Wp.seq ?_
          refine Wp.reg ?_
          refine Sq.v (r_buildA (b := (default : Vector (BitVec 8) 512)) (sz := 1) rfl Try.underlying36 (by kernel_rfl) zr36 (.nil)) rfl rfl rfl ?_
          refine Sq.store (i := 4) (Lens.id (Vector (BitVec 8) 512)) (v := ((default : Vector (BitVec 8) 512) : Vector (BitVec 8) 512)) (b' := ((default : Vector (BitVec 8) 512) : Vector (BitVec 8) 512)) ty36 (look_t rfl) (look_t rfl) rfl rfl rfl ?_
          refine Sq.v (r_asg (look_bool false)) rfl rfl rfl ?_
          refine Sq.nil ?_
          refine To.next ?_
          refine Wp.ret ?_
          refine To.bret ?_
          refine To.ret ?_
          refine To.bret ?_
          refine To.ret ?_
          replace h := some_in h
          subst h
          exact To.leaveG () 2 rfl (by simp) rfl (.same rfl (.same rfl (.same rfl (.same rfl (.same rfl (.same rfl (.same rfl (.same rfl (.same rfl (.same rfl (.same rfl (.same rfl (.same rfl (.same rfl (.same rfl (.same rfl (.same rfl .nil)))))))))))))))))
        · replace h := cond_f hc h
          refine Wp.seq ?_
          refine Wp.reg ?_
          refine Sq.v (r_fa fd141_0 (look_t rfl)) rfl rfl rfl ?_
          refine Sq.v (r_load (i := 0) ((Lens.id T_api_Match).comp le_T_api_Match_Present) (r := (lget x1.f_Matches k3).f_Present) ty4 (look_t rfl) rfl rfl rfl) rfl rfl rfl ?_
          refine Sq.v (r_not (look_t rfl)) rfl rfl rfl ?_
          refine Sq.v (r_asg (look_t rfl)) rfl rfl rfl ?_
          refine Sq.nil ?_
          refine To.next ?_
          refine Wp.cond (look_t rfl) (fun hc => ?_) (fun hc => ?_)
          · replace h := cond_t hc h
            refine Wp.exit ?_
            refine To.bother rfl ?_
            refine To.exit ?_
            refine To.bexit ?_
            refine To.next ?_
            refine Wp.reg ?_
            refine Sq.v (r_add (look_t rfl) (look_int 1)) rfl rfl rfl ?_
            refine Sq.v (r_move (look_t rfl)) rfl rfl rfl ?_
            refine Sq.nil ?_
            replace h := some_in h
            subst h
            exact To.roundG () 2 rfl (.same rfl (.same rfl (.same rfl (.same rfl (.same rfl (.same rfl (.same rfl (.same rfl (.same rfl (.same rfl (.same rfl (.same rfl (.same rfl .nil)))))))))))))
          · replace h := cond_f hc h
            refine Wp.seq ?_
            refine Wp.reg ?_
            refine Sq.v (r_fa fd139_2 (look_t rfl)) rfl rfl rfl ?_
            refine Sq.v (r_load (i := 1) ((Lens.id T_api_Key).comp le_T_api_Key_Kind) (r := (lget ((lget x0.f_Tables k1).f_Keys) k2).f_Kind) ty3 (look_t rfl) rfl rfl rfl) rfl rfl rfl ?_
            refine Sq.v (r_eql (look_t rfl) (look_int 1)) rfl rfl rfl ?_
            refine Sq.v (r_asg (look_t rfl)) rfl rfl rfl ?_
            refine Sq.nil ?_
            refine To.next ?_
            obtain ⟨m1, hm1, h⟩ := bind_some h
            refine Wp.condM (γ := Unit) (fun g2 => [(0, VP.of (x0)), (1, VP.of (x1)), (2, VP.eq (.pointer (some ⟨p1, 0, none⟩))), (3, VP.eq (.pointer (some ⟨p2, 0, none⟩))), (4, VP.eq (.pointer (some ⟨p3, 0, none⟩))), (5, VP.of (false)), (6, VP.of (y1)), (7, VP.eq (.pointer (some ⟨p4, 0, none⟩))), (8, VP.eq (.pointer (some ⟨p5, 0, none⟩))), (9, VP.of (s1.1)), (10, VP.eq (.pointer (some ⟨p6, 0, none⟩))), (11, VP.eq (.pointer (some ⟨(ps1 13), 0, none⟩))), (12, VP.of (y2)), (18, VP.of (decide (y1 < 0))), (25, VP.of ((lget x0.f_Tables k1).f_Keys)), (26, VP.of (((lget x0.f_Tables k1).f_Keys).length : Int)), (27, VP.of (s1.1)), (28, VP.of (decide (s1.1 < (((lget x0.f_Tables k1).f_Keys).length : Int)))), (49, VP.of (((lget ((lget x0.f_Tables k1).f_Keys) k2).f_Kind) == 4)), (54, VP.of (!((lget x1.f_Matches k3).f_Present))), (58, VP.of (((lget ((lget x0.f_Tables k1).f_Keys) k2).f_Kind) == 1))]) (fun g2 => [⟨some (ps1 13), .var (lget x1.f_Matches k3 : T_api_Match)⟩, ⟨some p6, .var (lget ((lget x0.f_Tables k1).f_Keys) k2 : T_api_Key)⟩, ⟨some p5, .var (m1 : Vector T_api_Value 4)⟩, ⟨some p4, .var (s1.2.2 : Vector T_api_Value 4)⟩, ⟨some p3, .var ((default : Vector (BitVec 8) 512) : Vector (BitVec 8) 512)⟩, ⟨some p2, .var (x1 : T_api_Entry)⟩, ⟨some p1, .var (x0 : T_api_Schema)⟩]) (look_t rfl) (fun g2 => ?_) (fun hm hc => ?_) (fun hm hc => ?_)
            · clear hm1
              refine To.bnorm ?_
              refine To.next ?_
              refine Wp.reg ?_
              refine Sq.v (r_move (look_t rfl)) rfl rfl rfl ?_
              refine Sq.v (r_fa fd141_1 (look_t rfl)) rfl rfl rfl ?_
              refine Sq.v (r_load (i := 0) ((Lens.id T_api_Match).comp le_T_api_Match_Value) (r := (lget x1.f_Matches k3).f_Value) ty24 (look_t rfl) rfl rfl rfl) rfl rfl rfl ?_
              obtain ⟨k5, hk5, h⟩ := bind_some h
              refine Sq.v (r_ia (k := k5) ar26 (look_t rfl) (look_t rfl) (idx_some hk5)) rfl rfl rfl ?_
              refine Sq.store (i := 3) ((Lens.id (Vector T_api_Value 4)).comp (Lens.idx (α := T_api_Value) 4 k5 (idx_some hk5).1)) (v := ((lget x1.f_Matches k3).f_Value : T_api_Value)) (b' := (vset s1.2.2 k5 ((lget x1.f_Matches k3).f_Value) : Vector T_api_Value 4)) ty24 (look_t rfl) (look_t rfl) rfl rfl rfl ?_
              refine Sq.nil ?_
              refine To.bnorm ?_
              refine To.next ?_
              refine Wp.reg ?_
              refine Sq.v (r_add (look_t rfl) (look_int 1)) rfl rfl rfl ?_
              refine Sq.v (r_move (look_t rfl)) rfl rfl rfl ?_
              refine Sq.nil ?_
              replace h := some_in h
              subst h
              exact To.roundG () 2 rfl (.same rfl (.same rfl (.same rfl (.same rfl (.same rfl (.same rfl (.same rfl (.same rfl (.same rfl (.same rfl (.same rfl (.same rfl (.same rfl .nil)))))))))))))
            · have h := cond_t hc hm1
              refine Wp.reg ?_
              refine Sq.v (r_move (look_t rfl)) rfl rfl rfl ?_
              refine Sq.v (r_move (look_t rfl)) rfl rfl rfl ?_
              obtain ⟨y3, hy3, h⟩ := bind_some h
              refine Sq.v (r_call en65 (C_ref01_Ones hy3) ⟨look_t rfl, trivial⟩) rfl rfl rfl ?_
              obtain ⟨k6, hk6, h⟩ := bind_some h
              refine Sq.v (r_ia (k := k6) ar26 (look_t rfl) (look_t rfl) (idx_some hk6)) rfl rfl rfl ?_
              refine Sq.store (i := 2) ((Lens.id (Vector T_api_Value 4)).comp (Lens.idx (α := T_api_Value) 4 k6 (idx_some hk6).1)) (v := (y3 : T_api_Value)) (b' := (vset s1.2.1 k6 y3 : Vector T_api_Value 4)) ty24 (look_t rfl) (look_t rfl) rfl rfl rfl ?_
              refine Sq.nil ?_
              replace h := some_in h
              subst h
              exact To.meet 0 rfl (.same rfl (.same rfl (.same rfl (.same rfl (.same rfl (.same rfl (.same rfl (.same rfl (.same rfl (.same rfl (.same rfl (.same rfl (.same rfl (.same rfl (.same rfl (.same rfl (.same rfl (.same rfl (.same rfl (.same rfl (.same rfl .nil))))))))))))))))))))) (hm ())
            · have h := cond_f hc hm1
              refine Wp.seq ?_
              refine Wp.reg ?_
              refine Sq.v (r_fa fd139_2 (look_t rfl)) rfl rfl rfl ?_
              refine Sq.v (r_load (i := 1) ((Lens.id T_api_Key).comp le_T_api_Key_Kind) (r := (lget ((lget x0.f_Tables k1).f_Keys) k2).f_Kind) ty3 (look_t rfl) rfl rfl rfl) rfl rfl rfl ?_
              refine Sq.v (r_eql (look_t rfl) (look_int 2)) rfl rfl rfl ?_
              refine Sq.v (r_asg (look_t rfl)) rfl rfl rfl ?_
              refine Sq.nil ?_
              refine To.next ?_
              obtain ⟨m2, hm2, h⟩ := bind_some h
              refine Wp.condM (γ := Unit) (fun g3 => [(0, VP.of (x0)), (1, VP.of (x1)), (2, VP.eq (.pointer (some ⟨p1, 0, none⟩))), (3, VP.eq (.pointer (some ⟨p2, 0, none⟩))), (4, VP.eq (.pointer (some ⟨p3, 0, none⟩))), (5, VP.of (false)), (6, VP.of (y1)), (7, VP.eq (.pointer (some ⟨p4, 0, none⟩))), (8, VP.eq (.pointer (some ⟨p5, 0, none⟩))), (9, VP.of (s1.1)), (10, VP.eq (.pointer (some ⟨p6, 0, none⟩))), (11, VP.eq (.pointer (some ⟨(ps1 13), 0, none⟩))), (12, VP.of (y2)), (18, VP.of (decide (y1 < 0))), (25, VP.of ((lget x0.f_Tables k1).f_Keys)), (26, VP.of (((lget x0.f_Tables k1).f_Keys).length : Int)), (27, VP.of (s1.1)), (28, VP.of (decide (s1.1 < (((lget x0.f_Tables k1).f_Keys).length : Int)))), (49, VP.of (((lget ((lget x0.f_Tables k1).f_Keys) k2).f_Kind) == 4)), (54, VP.of (!((lget x1.f_Matches k3).f_Present))), (58, VP.of (((lget ((lget x0.f_Tables k1).f_Keys) k2).f_Kind) == 1)), (66, VP.of (((lget ((lget x0.f_Tables k1).f_Keys) k2).f_Kind) == 2))]) (fun g3 => [⟨some (ps1 13), .var (lget x1.f_Matches k3 : T_api_Match)⟩, ⟨some p6, .var (lget ((lget x0.f_Tables k1).f_Keys) k2 : T_api_Key)⟩, ⟨some p5, .var (m2 : Vector T_api_Value 4)⟩, ⟨some p4, .var (s1.2.2 : Vector T_api_Value 4)⟩, ⟨some p3, .var ((default : Vector (BitVec 8) 512) : Vector (BitVec 8) 512)⟩, ⟨some p2, .var (x1 : T_api_Entry)⟩, ⟨some p1, .var (x0 : T_api_Schema)⟩]) (look_t rfl) (fun g3 => ?_) (fun hm hc => ?_) (fun hm hc => ?_)
              · clear hm2
                replace h := some_in h
                subst h
                exact To.meet 0 rfl (.same rfl (.same rfl (.same rfl (.same rfl (.same rfl (.same rfl (.same rfl (.same rfl (.same rfl (.same rfl (.same rfl (.same rfl (.same rfl (.same rfl (.same rfl (.same rfl (.same rfl (.same rfl (.same rfl (.same rfl (.same rfl .nil))))))))))))))))))))) (hm ())
              · have h := cond_t hc hm2
                refine Wp.reg ?_
                refine Sq.v (r_move (look_t rfl)) rfl rfl rfl ?_
                refine Sq.v (r_move (look_t rfl)) rfl rfl rfl ?_
                refine Sq.v (r_fa fd141_3 (look_t rfl)) rfl rfl rfl ?_
                refine Sq.v (r_load (i := 0) ((Lens.id T_api_Match).comp le_T_api_Match_Prefix) (r := (lget x1.f_Matches k3).f_Prefix) ty3 (look_t rfl) rfl rfl rfl) rfl rfl rfl ?_
                obtain ⟨y4, hy4, h⟩ := bind_some h
                refine Sq.v (r_call en84 (C_ref01_Leading hy4) ⟨look_t rfl, look_t rfl, trivial⟩) rfl rfl rfl ?_
                obtain ⟨k7, hk7, h⟩ := bind_some h
                refine Sq.v (r_ia (k := k7) ar26 (look_t rfl) (look_t rfl) (idx_some hk7)) rfl rfl rfl ?_
                refine Sq.store (i := 2) ((Lens.id (Vector T_api_Value 4)).comp (Lens.idx (α := T_api_Value) 4 k7 (idx_some hk7).1)) (v := (y4 : T_api_Value)) (b' := (vset s1.2.1 k7 y4 : Vector T_api_Value 4)) ty24 (look_t rfl) (look_t rfl) rfl rfl rfl ?_
                refine Sq.nil ?_
                replace h := some_in h
                subst h
                exact To.meet 0 rfl (.same rfl (.same rfl (.same rfl (.same rfl (.same rfl (.same rfl (.same rfl (.same rfl (.same rfl (.same rfl (.same rfl (.same rfl (.same rfl (.same rfl (.same rfl (.same rfl (.same rfl (.same rfl (.same rfl (.same rfl (.same rfl (.same rfl .nil)))))))))))))))))))))) (hm ())
              · have h := cond_f hc hm2
                refine Wp.reg ?_
                refine Sq.v (r_move (look_t rfl)) rfl rfl rfl ?_
                refine Sq.v (r_fa fd141_2 (look_t rfl)) rfl rfl rfl ?_
                refine Sq.v (r_load (i := 0) ((Lens.id T_api_Match).comp le_T_api_Match_Mask) (r := (lget x1.f_Matches k3).f_Mask) ty24 (look_t rfl) rfl rfl rfl) rfl rfl rfl ?_
                obtain ⟨k8, hk8, h⟩ := bind_some h
                refine Sq.v (r_ia (k := k8) ar26 (look_t rfl) (look_t rfl) (idx_some hk8)) rfl rfl rfl ?_
                refine Sq.store (i := 2) ((Lens.id (Vector T_api_Value 4)).comp (Lens.idx (α := T_api_Value) 4 k8 (idx_some hk8).1)) (v := ((lget x1.f_Matches k3).f_Mask : T_api_Value)) (b' := (vset s1.2.1 k8 ((lget x1.f_Matches k3).f_Mask) : Vector T_api_Value 4)) ty24 (look_t rfl) (look_t rfl) rfl rfl rfl ?_
                refine Sq.nil ?_
                replace h := some_in h
                subst h
                exact To.meet 0 rfl (.same rfl (.same rfl (.same rfl (.same rfl (.same rfl (.same rfl (.same rfl (.same rfl (.same rfl (.same rfl (.same rfl (.same rfl (.same rfl (.same rfl (.same rfl (.same rfl (.same rfl (.same rfl (.same rfl (.same rfl (.same rfl (.same rfl .nil)))))))))))))))))))))) (hm ())
      · replace h := cond_f hc h
        refine Wp.exit ?_
        refine To.exit ?_
        replace h := some_in h
        subst h
        exact To.leaveG () 0 rfl (by simp) rfl (.same rfl (.same rfl (.same rfl (.same rfl (.same rfl (.same rfl (.same rfl (.same rfl (.same rfl (.same rfl (.same rfl (.same rfl (.same rfl (.same rfl .nil))))))))))))))
    · clear hl
      rcases e1 with e1 | e1
      · simp only [Sum.elim_inl] at h
        refine To.bexit ?_
        refine To.next ?_
        refine Wp.seq ?_
        refine Wp.reg ?_
        refine Sq.v (r_load (i := 1) (Lens.id (Vector T_api_Value 4)) (r := e1.2.2.2) ty26 (look_t rfl) rfl rfl rfl) rfl rfl rfl ?_
        refine Sq.v (r_load (i := 0) (Lens.id (Vector T_api_Value 4)) (r := e1.2.2.1) ty26 (look_t rfl) rfl rfl rfl) rfl rfl rfl ?_
        obtain ⟨y5, hy5, h⟩ := bind_some h
        refine Sq.v (r_call en55 (C_ref25_Read hy5) ⟨look_t rfl, look_t rfl, trivial⟩) rfl rfl rfl ?_
        refine Sq.store (i := 2) (Lens.id (Vector (BitVec 8) 512)) (v := (y5 : Vector (BitVec 8) 512)) (b' := (y5 : Vector (BitVec 8) 512)) ty36 (look_t rfl) (look_t rfl) rfl rfl rfl ?_
        refine Sq.v (r_asg (look_bool true)) rfl rfl rfl ?_
        refine Sq.nil ?_
        refine To.next ?_
        refine Wp.ret ?_
        replace h := some_in h
        subst h
        exact To.end2 rfl (rv_c (i := 2) ty36 rfl rfl) (rv_t rfl)
      · simp only [Sum.elim_inr] at h
        refine To.bret ?_
        refine To.ret ?_
        replace h := some_in h
        subst h
        exact To.end2 rfl (rv_c (i := 2) ty36 rfl rfl) (rv_t rfl)
set_option maxHeartbeats 2000000 in
theorem C_entry_Matches {x0 : T_api_Schema} {x1 : T_api_Entry} {x2 : Vector T_api_Value 4}  {r : Bool} (h : L_entry_Matches x0 x1 x2 = some r) : Meets Try.prog 50 [VP.of (x0), VP.of (x1), VP.of (x2)] (VP.of (r)) := by
  unfold L_entry_Matches at h
  refine Meets.of Try.func50 rfl Try.ntmps50 rfl fun W A => ?_
  refine Wp.seq ?_
  refine Wp.reg ?_
  refine Sq.box (z := (x0 : T_api_Schema)) (look_t rfl) rfl fun p1 => ?_
  refine Sq.box (z := (x1 : T_api_Entry)) (look_t rfl) rfl fun p2 => ?_
  refine Sq.box (z := (x2 : Vector T_api_Value 4)) (look_t rfl) rfl fun p3 => ?_
  refine Sq.v (r_asg (look_bool false)) rfl rfl rfl ?_
  refine Sq.nil ?_
  refine To.next ?_
  refine Wp.seq ?_
  refine Wp.reg ?_
  refine Sq.v (r_load (i := 2) (Lens.id T_api_Schema) (r := x0) ty84 (look_t rfl) rfl rfl rfl) rfl rfl rfl ?_
  refine Sq.v (r_load (i := 1) (Lens.id T_api_Entry) (r := x1) ty91 (look_t rfl) rfl rfl rfl) rfl rfl rfl ?_
  obtain ⟨y1, hy1, h⟩ := bind_some h
  refine Sq.v (r_call en86 (C_entry_table hy1) ⟨look_t rfl, look_t rfl, trivial⟩) rfl rfl rfl ?_
  refine Sq.v (r_move (look_t rfl)) rfl rfl rfl ?_
  refine Sq.v (r_ext (look_t rfl) rfl) rfl rfl rfl ?_
  refine Sq.v (r_ext (look_t rfl) rfl) rfl rfl rfl ?_
  refine Sq.alloc zr97 rfl fun p4 => ?_
  refine Sq.store (i := 0) (Lens.id T_api_Table) (v := (y1.1 : T_api_Table)) (b' := (y1.1 : T_api_Table)) ty97 (look_t rfl) (look_t rfl) rfl rfl rfl ?_
  refine Sq.v (r_asg (look_t rfl)) rfl rfl rfl ?_
  refine Sq.nil ?_
  refine To.next ?_
  refine Wp.seq ?_
  refine Wp.seq ?_
  refine Wp.reg ?_
  refine Sq.v (r_move (look_t rfl)) rfl rfl rfl ?_
  refine Sq.v (r_not (look_t rfl)) rfl rfl rfl ?_
  refine Sq.nil ?_
  refine To.next ?_
  refine Wp.cond (look_t rfl) (fun hc => ?_) (fun hc => ?_)
  · replace h := cond_t hc h
    refine Wp.seq ?_
    refine Wp.reg ?_
    refine Sq.v (r_asg (look_bool false)) rfl rfl rfl ?_
    refine Sq.nil ?_
    refine To.next ?_
    refine Wp.ret ?_
    refine To.ret ?_
    replace h := some_in h
    subst h
    exact To.end1 rfl (rv_t rfl)
  · replace h := cond_f hc h
    refine Wp.skip ?_
    refine To.next ?_
    refine Wp.seq ?_
    refine Wp.seq ?_
    refine Wp.reg ?_
    refine Sq.v (r_fa fd97_2 (look_t rfl)) rfl rfl rfl ?_
    refine Sq.v (r_load (i := 0) ((Lens.id T_api_Table).comp le_T_api_Table_Keys) (r := y1.1.f_Keys) ty95 (look_t rfl) rfl rfl rfl) rfl rfl rfl ?_
    refine Sq.v (r_len Try.underlying95 (look_t rfl)) rfl rfl rfl ?_
    refine Sq.v (r_move (look_int 0)) rfl rfl rfl ?_
    refine Sq.nil ?_
    refine To.next ?_
    refine Wp.block ?_
    obtain ⟨e1, hl, h⟩ := bind_some h
    refine Wp.loopG (σ := Int) (ε := (Int × Bool) ⊕ (Int × Int × Bool × Bool)) (γ := Unit) (δ := Unit) hl (fun s1 g1 => [(0, VP.of (x0)), (1, VP.of (x1)), (2, VP.of (x2)), (3, VP.eq (.pointer (some ⟨p1, 0, none⟩))), (4, VP.eq (.pointer (some ⟨p2, 0, none⟩))), (5, VP.eq (.pointer (some ⟨p3, 0, none⟩))), (6, VP.of (false)), (7, VP.eq (.pointer (some ⟨p4, 0, none⟩))), (8, VP.of (y1.2)), (18, VP.of (!y1.2)), (20, VP.of (y1.1.f_Keys)), (21, VP.of (y1.1.f_Keys.length : Int)), (22, VP.of (s1))]) (fun s1 g1 => [⟨some p4, .var (y1.1 : T_api_Table)⟩, ⟨some p3, .var (x2 : Vector T_api_Value 4)⟩, ⟨some p2, .var (x1 : T_api_Entry)⟩, ⟨some p1, .var (x0 : T_api_Schema)⟩]) (fun q1 => Sum.elim (fun q1 => Exit.exit 0) (fun q1 => Exit.ret) q1) (fun q1 g1 => Sum.elim (fun q1 => [(0, VP.of (x0)), (1, VP.of (x1)), (2, VP.of (x2)), (3, VP.eq (.pointer (some ⟨p1, 0, none⟩))), (4, VP.eq (.pointer (some ⟨p2, 0, none⟩))), (5, VP.eq (.pointer (some ⟨p3, 0, none⟩))), (6, VP.of (false)), (7, VP.eq (.pointer (some ⟨p4, 0, none⟩))), (8, VP.of (y1.2)), (18, VP.of (!y1.2)), (20, VP.of (y1.1.f_Keys)), (21, VP.of (y1.1.f_Keys.length : Int)), (22, VP.of (q1.1)), (23, VP.of (q1.2))]) (fun q1 => [(0, VP.of (x0)), (1, VP.of (x1)), (2, VP.of (x2)), (3, VP.eq (.pointer (some ⟨p1, 0, none⟩))), (4, VP.eq (.pointer (some ⟨p2, 0, none⟩))), (5, VP.eq (.pointer (some ⟨p3, 0, none⟩))), (6, VP.of (false)), (7, VP.eq (.pointer (some ⟨p4, 0, none⟩))), (8, VP.of (y1.2)), (9, VP.of (q1.1)), (18, VP.of (!y1.2)), (20, VP.of (y1.1.f_Keys)), (21, VP.of (y1.1.f_Keys.length : Int)), (22, VP.of (q1.2.1)), (23, VP.of (q1.2.2.1)), (52, VP.of (q1.2.2.2))]) q1) (fun q1 g1 => Sum.elim (fun q1 => [⟨some p4, .var (y1.1 : T_api_Table)⟩, ⟨some p3, .var (x2 : Vector T_api_Value 4)⟩, ⟨some p2, .var (x1 : T_api_Entry)⟩, ⟨some p1, .var (x0 : T_api_Schema)⟩]) (fun q1 => [⟨some p4, .var (y1.1 : T_api_Table)⟩, ⟨some p3, .var (x2 : Vector T_api_Value 4)⟩, ⟨some p2, .var (x1 : T_api_Entry)⟩, ⟨some p1, .var (x0 : T_api_Schema)⟩]) q1) () rfl (.same rfl (.same rfl (.same rfl (.same rfl (.same rfl (.same rfl (.same rfl (.same rfl (.same rfl (.same rfl (.same rfl (.same rfl (.same rfl .nil))))))))))))) (fun s1 r h g1 => ?_) (fun g1 => ?_)
    · clear hl
      refine Wp.seq ?_
      refine Wp.reg ?_
      refine Sq.v (r_lss (look_t rfl) (look_t rfl)) rfl rfl rfl ?_
      refine Sq.nil ?_
      refine To.next ?_
      refine Wp.seq ?_
      refine Wp.cond (look_t rfl) (fun hc => ?_) (fun hc => ?_)
      · replace h := cond_t hc h
        refine Wp.skip ?_
        refine To.next ?_
        refine Wp.seq ?_
        refine Wp.block ?_
        refine Wp.seq ?_
        refine Wp.reg ?_
        refine Sq.v (r_move (look_t rfl)) rfl rfl rfl ?_
        obtain ⟨k1, hk1, h⟩ := bind_some h
        refine Sq.v (r_ias (k := k1) Try.underlying95 ty139 (look_t rfl) (look_t rfl) (idx_some hk1)) rfl rfl rfl ?_
        refine Sq.v (r_loadp ty139 (look_t rfl)) rfl rfl rfl ?_
        refine Sq.alloc zr139 rfl fun p5 => ?_
        refine Sq.v (r_asg (look_t rfl)) rfl rfl rfl ?_
        refine Sq.store (i := 0) (Lens.id T_api_Key) (v := (lget y1.1.f_Keys k1 : T_api_Key)) (b' := (lget y1.1.f_Keys k1 : T_api_Key)) ty139 (look_t rfl) (look_t rfl) rfl rfl rfl ?_
        refine Sq.nil ?_
        refine To.next ?_
        refine Wp.seq ?_
        obtain ⟨k2, hk2, h⟩ := bind_some h
        obtain ⟨y2, hy2, h⟩ := bind_some h
        obtain ⟨k3, hk3, h⟩ := bind_some h
        obtain ⟨y3, hy3, h⟩ := bind_some h
        obtain ⟨z1, hz1, h⟩ := bind_some h
        refine Wp.draw mixed 26 ((some 27) :: (some 28) :: (some 29) :: (some 30) :: (some 31) :: (some 32) :: (some 33) :: (some 34) :: (some 35) :: (some 36) :: (some 37) :: (some 38) :: (some 39) :: (some 40) :: (some 41) :: (some 42) :: (some 43) :: (some 44) :: (some 45) :: (some 46) :: (some 47) :: (some 48) :: (some 49) :: (some 50) :: (some 51) :: (some 52) :: []) ([] :: [] :: [1] :: [2] :: [0, 3] :: [4] :: [5] :: [5, 6] :: [5, 7] :: [8] :: [9] :: [9, 10] :: [9] :: [9, 11, 12] :: [9, 13] :: [9] :: [9, 15] :: [9] :: [9] :: [9, 17, 18] :: [9] :: [9, 20] :: [9, 21] :: [9, 14, 16, 19, 22] :: [9, 23] :: [9, 24] :: []) (.val (VP.of (s1)) :: .val (VP.eq (.pointer (some ⟨p2, 0 + 1, none⟩))) :: .val (VP.of (x1.f_Matches)) :: .val (VP.of (x1.f_Matches.length : Int)) :: .val (VP.of (decide (s1 ≥ (x1.f_Matches.length : Int)))) :: .val (VP.of (decide (s1 ≥ (x1.f_Matches.length : Int)))) :: .val (VP.cond ((decide (s1 ≥ (x1.f_Matches.length : Int))) = false) (VP.of (s1))) :: .val (VP.cond ((decide (s1 ≥ (x1.f_Matches.length : Int))) = false) (VP.of (decide (s1 ≥ 4)))) :: .val (VP.of ((decide (s1 ≥ (x1.f_Matches.length : Int))) || (decide (s1 ≥ 4)))) :: .val (VP.of ((decide (s1 ≥ (x1.f_Matches.length : Int))) || (decide (s1 ≥ 4)))) :: .val (VP.cond (((decide (s1 ≥ (x1.f_Matches.length : Int))) || (decide (s1 ≥ 4))) = false) (VP.eq (.pointer (some ⟨p2, 0 + 1, none⟩)))) :: .val (VP.cond (((decide (s1 ≥ (x1.f_Matches.length : Int))) || (decide (s1 ≥ 4))) = false) (VP.of (x1.f_Matches))) :: .val (VP.cond (((decide (s1 ≥ (x1.f_Matches.length : Int))) || (decide (s1 ≥ 4))) = false) (VP.of (s1))) :: .val (VP.cond (((decide (s1 ≥ (x1.f_Matches.length : Int))) || (decide (s1 ≥ 4))) = false) (VP.ptr (lget x1.f_Matches k2))) :: .val (VP.cond (((decide (s1 ≥ (x1.f_Matches.length : Int))) || (decide (s1 ≥ 4))) = false) (VP.of (lget x1.f_Matches k2))) :: .val (VP.cond (((decide (s1 ≥ (x1.f_Matches.length : Int))) || (decide (s1 ≥ 4))) = false) (VP.eq (.pointer (some ⟨p5, 0 + 2, none⟩)))) :: .val (VP.cond (((decide (s1 ≥ (x1.f_Matches.length : Int))) || (decide (s1 ≥ 4))) = false) (VP.of ((lget y1.1.f_Keys k1).f_Kind))) :: .val (VP.cond (((decide (s1 ≥ (x1.f_Matches.length : Int))) || (decide (s1 ≥ 4))) = false) (VP.of (x0))) :: .val (VP.cond (((decide (s1 ≥ (x1.f_Matches.length : Int))) || (decide (s1 ≥ 4))) = false) (VP.of (lget y1.1.f_Keys k1))) :: .val (VP.cond (((decide (s1 ≥ (x1.f_Matches.length : Int))) || (decide (s1 ≥ 4))) = false) (VP.of (y2))) :: .val (VP.cond (((decide (s1 ≥ (x1.f_Matches.length : Int))) || (decide (s1 ≥ 4))) = false) (VP.of (s1))) :: .val (VP.cond (((decide (s1 ≥ (x1.f_Matches.length : Int))) || (decide (s1 ≥ 4))) = false) (VP.eq (.pointer (some ⟨p3, 0 + k3 * 2, none⟩)))) :: .val (VP.cond (((decide (s1 ≥ (x1.f_Matches.length : Int))) || (decide (s1 ≥ 4))) = false) (VP.of (vget x2 k3))) :: .val (VP.cond (((decide (s1 ≥ (x1.f_Matches.length : Int))) || (decide (s1 ≥ 4))) = false) (VP.of (y3))) :: .val (VP.cond (((decide (s1 ≥ (x1.f_Matches.length : Int))) || (decide (s1 ≥ 4))) = false) (VP.of (!y3))) :: .val (VP.of (z1)) :: []) (false :: false :: false :: false :: false :: false :: false :: false :: false :: false :: false :: false :: false :: false :: false :: false :: false :: false :: false :: false :: false :: false :: false :: false :: false :: false :: []) (by kernel_rfl) rfl rfl rfl (fun ps1 => ⟨fun L' hL => HO.v (r_move (look_t rfl)) rfl, fun L' hL => HO.v (r_fa fd91_1 (look_t rfl)) rfl, fun L' hL => HO.v (r_load (i := 3) ((Lens.id T_api_Entry).comp le_T_api_Entry_Matches) (r := x1.f_Matches) ty88 (look_t rfl) (hL _ _ rfl rfl) rfl rfl) rfl, fun L' hL => HO.v (r_len Try.underlying88 (look_t rfl)) rfl, fun L' hL => HO.v (r_geq (look_t rfl) (look_t rfl)) rfl, fun L' hL => HO.v (r_move (look_t rfl)) rfl, fun L' hL => HO.g (fun hb => r_move (look_t rfl)) rfl rfl rfl, fun L' hL => HO.g (fun hb => r_geq (look_tc rfl hb) (look_int 4)) rfl rfl rfl, fun L' hL => HO.v (r_or (look_t rfl) (look_t rfl) (fun h => h)) rfl, fun L' hL => HO.v (r_move (look_t rfl)) rfl, fun L' hL => HO.g (fun hb => r_fa fd91_1 (look_t rfl)) rfl rfl rfl, fun L' hL => HO.g (fun hb => r_load (i := 3) ((Lens.id T_api_Entry).comp le_T_api_Entry_Matches) (r := x1.f_Matches) ty88 (look_tc rfl hb) (hL _ _ rfl rfl) rfl rfl) rfl rfl rfl, fun L' hL => HO.g (fun hb => r_move (look_t rfl)) rfl rfl rfl, fun L' hL => HO.g (fun hb => r_ias (k := k2) Try.underlying88 ty141 (look_tc rfl hb) (look_tc rfl hb) (idx_some (condM_some hk2 hb))) rfl rfl rfl, fun L' hL => HO.g (fun hb => r_loadp ty141 (look_tc rfl hb)) rfl rfl rfl, fun L' hL => HO.g (fun hb => r_fa fd139_2 (look_t rfl)) rfl rfl rfl, fun L' hL => HO.g (fun hb => r_load (i := 0) ((Lens.id T_api_Key).comp le_T_api_Key_Kind) (r := (lget y1.1.f_Keys k1).f_Kind) ty3 (look_tc rfl hb) (hL _ _ rfl rfl) rfl rfl) rfl rfl rfl, fun L' hL => HO.g (fun hb => r_load (i := 4) (Lens.id T_api_Schema) (r := x0) ty84 (look_t rfl) (hL _ _ rfl rfl) rfl rfl) rfl rfl rfl, fun L' hL => HO.g (fun hb => r_load (i := 0) (Lens.id T_api_Key) (r := (lget y1.1.f_Keys k1)) ty139 (look_t rfl) (hL _ _ rfl rfl) rfl rfl) rfl rfl rfl, fun L' hL => HO.g (fun hb => r_call en88 (C_entry_bitsOf (condM_some hy2 hb)) ⟨look_tc rfl hb, look_tc rfl hb, trivial⟩) rfl rfl rfl, fun L' hL => HO.g (fun hb => r_move (look_t rfl)) rfl rfl rfl, fun L' hL => HO.g (fun hb => r_ia (k := k3) ar26 (look_t rfl) (look_tc rfl hb) (idx_some (condM_some hk3 hb))) rfl rfl rfl, fun L' hL => HO.g (fun hb => r_load (i := 2) ((Lens.id (Vector T_api_Value 4)).comp (Lens.idx (α := T_api_Value) 4 k3 (idx_some (condM_some hk3 hb)).1)) (r := vget x2 k3) ty24 (look_tc rfl hb) (hL _ _ rfl rfl) rfl rfl) rfl rfl rfl, fun L' hL => HO.g (fun hb => r_call en87 (C_entry_Covers (condM_some hy3 hb)) ⟨look_tc rfl hb, look_tc rfl hb, look_tc rfl hb, look_tc rfl hb, trivial⟩) rfl rfl rfl, fun L' hL => HO.g (fun hb => r_not (look_tc rfl hb)) rfl rfl rfl, fun L' hL => HO.v ((r_or (look_t rfl) (look_t rfl) (fun h => h)).as (some_in hz1)) rfl, trivial⟩) fun ps1 => ?_
        refine Sq.nil ?_
        refine To.next ?_
        refine Wp.cond (look_t rfl) (fun hc => ?_) (fun hc => ?_)
        · replace h := cond_t hc h
          refine Wp.seq ?_
          refine Wp.reg ?_
          refine Sq.v (r_asg (look_bool false)) rfl rfl rfl ?_
          refine Sq.nil ?_
          refine To.next ?_
          refine Wp.ret ?_
          refine To.bret ?_
          refine To.ret ?_
          replace h := some_in h
          subst h
          exact To.leaveG () 1 rfl (by simp) rfl (.same rfl (.same rfl (.same rfl (.same rfl (.same rfl (.same rfl (.same rfl (.same rfl (.same rfl (.same rfl (.same rfl (.same rfl (.same rfl (.same rfl (.same rfl (.same rfl .nil))))))))))))))))
        · replace h := cond_f hc h
          refine Wp.skip ?_
          refine To.bnorm ?_
          refine To.next ?_
          refine Wp.reg ?_
          refine Sq.v (r_add (look_t rfl) (look_int 1)) rfl rfl rfl ?_
          refine Sq.v (r_move (look_t rfl)) rfl rfl rfl ?_
          refine Sq.nil ?_
          replace h := some_in h
          subst h
          exact To.roundG () 1 rfl (.same rfl (.same rfl (.same rfl (.same rfl (.same rfl (.same rfl (.same rfl (.same rfl (.same rfl (.same rfl (.same rfl (.same rfl (.same rfl .nil)))))))))))))
      · replace h := cond_f hc h
        refine Wp.exit ?_
        refine To.exit ?_
        replace h := some_in h
        subst h
        exact To.leaveG () 0 rfl (by simp) rfl (.same rfl (.same rfl (.same rfl (.same rfl (.same rfl (.same rfl (.same rfl (.same rfl (.same rfl (.same rfl (.same rfl (.same rfl (.same rfl (.same rfl .nil))))))))))))))
    · clear hl
      rcases e1 with e1 | e1
      · simp only [Sum.elim_inl] at h
        refine To.bexit ?_
        refine To.next ?_
        refine Wp.seq ?_
        refine Wp.reg ?_
        refine Sq.v (r_asg (look_bool true)) rfl rfl rfl ?_
        refine Sq.nil ?_
        refine To.next ?_
        refine Wp.ret ?_
        replace h := some_in h
        subst h
        exact To.end1 rfl (rv_t rfl)
      · simp only [Sum.elim_inr] at h
        refine To.bret ?_
        refine To.ret ?_
        replace h := some_in h
        subst h
        exact To.end1 rfl (rv_t rfl)
end Go.Proofs.Ytabodolbdalimaa
