/-
  Printed by the decompiler (dec.py) out of the seat's translation. Each function meets its functional program. Conditions: none.
-/
import Derived.Test.YtodajdohokmjnaaDc4
import Derived.Test.YtodajdohokmjnaaDc5
import Derived.Test.YtodajdohokmjnaaDc8
namespace Go.Proofs.Ytodajdohokmjnaa
open Go Gv
set_option linter.unusedVariables false
set_option linter.unusedSimpArgs false
set_option maxRecDepth 100000
set_option maxHeartbeats 2000000 in
theorem C_ref20_Arbitrate {x0 : T_ref20_State} {x1 : T_api_Schema} {x2 : Int} {x3 : Int} {x4 : T_api_Value}  {r : T_ref20_State × Bool × Int} (h : L_ref20_Arbitrate x0 x1 x2 x3 x4 = some r) : Meets Try.prog 18 [VP.of (x0), VP.of (x1), VP.of (x2), VP.of (x3), VP.of (x4)] (VP.tup [VP.of (r.1), VP.of (r.2.1), VP.of (r.2.2)]) := by
  unfold L_ref20_Arbitrate at h
  refine Meets.of Try.func18 rfl Try.ntmps18 rfl fun W A => ?_
  refine Wp.seq ?_
  refine Wp.reg ?_
  refine Sq.box (z := (x0 : T_ref20_State)) (look_t rfl) rfl fun p1 => ?_
  refine Sq.box (z := (x1 : T_api_Schema)) (look_t rfl) rfl fun p2 => ?_
  refine Sq.box (z := (x4 : T_api_Value)) (look_t rfl) rfl fun p3 => ?_
  refine Sq.alloc zr44 rfl fun p4 => ?_
  refine Sq.v (r_asg (look_bool false)) rfl rfl rfl ?_
  refine Sq.v (r_asg (look_int 0)) rfl rfl rfl ?_
  refine Sq.nil ?_
  refine To.next ?_
  refine Wp.seq ?_
  refine Wp.seq ?_
  refine Wp.reg ?_
  refine Sq.v (r_move (look_t rfl)) rfl rfl rfl ?_
  refine Sq.v (r_lss (look_t rfl) (look_int 0)) rfl rfl rfl ?_
  refine Sq.v (r_move (look_t rfl)) rfl rfl rfl ?_
  refine Sq.g (fun hb => r_move (look_t rfl)) rfl rfl rfl rfl rfl ?_
  refine Sq.g (fun hb => r_geq (look_tc rfl hb) (look_int 6)) rfl rfl rfl rfl rfl ?_
  refine Sq.v (r_or (look_t rfl) (look_t rfl) (fun h => h)) rfl rfl rfl ?_
  refine Sq.nil ?_
  refine To.next ?_
  refine Wp.cond (look_t rfl) (fun hc => ?_) (fun hc => ?_)
  · replace h := cond_t hc h
    refine Wp.seq ?_
    refine Wp.reg ?_
    refine Sq.v (r_build (b := (default : T_ref20_State)) rfl bu44 zr44 (.nil)) rfl rfl rfl ?_
    refine Sq.store (i := 0) (Lens.id T_ref20_State) (v := ((default : T_ref20_State) : T_ref20_State)) (b' := ((default : T_ref20_State) : T_ref20_State)) ty44 (look_t rfl) (look_t rfl) rfl rfl rfl ?_
    refine Sq.v (r_asg (look_bool false)) rfl rfl rfl ?_
    refine Sq.v (r_asg (look_int 4)) rfl rfl rfl ?_
    refine Sq.nil ?_
    refine To.next ?_
    refine Wp.ret ?_
    refine To.ret ?_
    replace h := some_in h
    subst h
    exact To.end3 rfl (rv_c (i := 0) ty44 rfl rfl) (rv_t rfl) (rv_t rfl)
  · replace h := cond_f hc h
    refine Wp.skip ?_
    refine To.next ?_
    refine Wp.seq ?_
    refine Wp.seq ?_
    refine Wp.reg ?_
    refine Sq.v (r_load (i := 2) (Lens.id T_api_Schema) (r := x1) ty33 (look_t rfl) rfl rfl rfl) rfl rfl rfl ?_
    refine Sq.v (r_move (look_t rfl)) rfl rfl rfl ?_
    obtain ⟨y1, hy1, h⟩ := bind_some h
    refine Sq.v (r_call en72 (C_ref04_RoleOf hy1) ⟨look_t rfl, look_t rfl, trivial⟩) rfl rfl rfl ?_
    refine Sq.v (r_lss (look_t rfl) (look_int 0)) rfl rfl rfl ?_
    refine Sq.nil ?_
    refine To.next ?_
    refine Wp.cond (look_t rfl) (fun hc => ?_) (fun hc => ?_)
    · replace h := cond_t hc h
      refine Wp.seq ?_
      refine Wp.reg ?_
      refine Sq.v (r_build (b := (default : T_ref20_State)) rfl bu44 zr44 (.nil)) rfl rfl rfl ?_
      refine Sq.store (i := 0) (Lens.id T_ref20_State) (v := ((default : T_ref20_State) : T_ref20_State)) (b' := ((default : T_ref20_State) : T_ref20_State)) ty44 (look_t rfl) (look_t rfl) rfl rfl rfl ?_
      refine Sq.v (r_asg (look_bool false)) rfl rfl rfl ?_
      refine Sq.v (r_asg (look_int 21)) rfl rfl rfl ?_
      refine Sq.nil ?_
      refine To.next ?_
      refine Wp.ret ?_
      refine To.ret ?_
      replace h := some_in h
      subst h
      exact To.end3 rfl (rv_c (i := 0) ty44 rfl rfl) (rv_t rfl) (rv_t rfl)
    · replace h := cond_f hc h
      refine Wp.skip ?_
      refine To.next ?_
      refine Wp.seq ?_
      refine Wp.seq ?_
      refine Wp.reg ?_
      refine Sq.v (r_fa fd44_0 (look_t rfl)) rfl rfl rfl ?_
      refine Sq.v (r_load (i := 3) ((Lens.id T_ref20_State).comp le_T_ref20_State_Sessions) (r := x0.f_Sessions) ty41 (look_t rfl) rfl rfl rfl) rfl rfl rfl ?_
      refine Sq.v (r_len Try.underlying41 (look_t rfl)) rfl rfl rfl ?_
      refine Sq.v (r_move (look_int 0)) rfl rfl rfl ?_
      refine Sq.nil ?_
      refine To.next ?_
      refine Wp.block ?_
      obtain ⟨e1, hl, h⟩ := bind_some h
      refine Wp.loopG (σ := Int) (ε := (Int × Bool) ⊕ (Int × Int × Bool × Bool)) (γ := Unit) (δ := Unit) hl (fun s1 g1 => [(0, VP.of (x0)), (1, VP.of (x1)), (2, VP.of (x2)), (3, VP.of (x3)), (4, VP.of (x4)), (5, VP.eq (.pointer (some ⟨p1, 0, none⟩))), (6, VP.eq (.pointer (some ⟨p2, 0, none⟩))), (9, VP.eq (.pointer (some ⟨p3, 0, none⟩))), (10, VP.eq (.pointer (some ⟨p4, 0, none⟩))), (11, VP.of (false)), (12, VP.of (0 : Int)), (24, VP.of ((decide (x2 < 0)) || (decide (x2 ≥ 6)))), (29, VP.of (decide (y1 < 0))), (32, VP.of (x0.f_Sessions)), (33, VP.of (x0.f_Sessions.length : Int)), (34, VP.of (s1))]) (fun s1 g1 => [⟨some p4, .var ((default : T_ref20_State) : T_ref20_State)⟩, ⟨some p3, .var (x4 : T_api_Value)⟩, ⟨some p2, .var (x1 : T_api_Schema)⟩, ⟨some p1, .var (x0 : T_ref20_State)⟩]) (fun q1 => Sum.elim (fun q1 => Exit.exit 0) (fun q1 => Exit.ret) q1) (fun q1 g1 => Sum.elim (fun q1 => [(0, VP.of (x0)), (1, VP.of (x1)), (2, VP.of (x2)), (3, VP.of (x3)), (4, VP.of (x4)), (5, VP.eq (.pointer (some ⟨p1, 0, none⟩))), (6, VP.eq (.pointer (some ⟨p2, 0, none⟩))), (9, VP.eq (.pointer (some ⟨p3, 0, none⟩))), (10, VP.eq (.pointer (some ⟨p4, 0, none⟩))), (11, VP.of (false)), (12, VP.of (0 : Int)), (24, VP.of ((decide (x2 < 0)) || (decide (x2 ≥ 6)))), (29, VP.of (decide (y1 < 0))), (32, VP.of (x0.f_Sessions)), (33, VP.of (x0.f_Sessions.length : Int)), (34, VP.of (q1.1)), (35, VP.of (q1.2))]) (fun q1 => [(0, VP.of (x0)), (1, VP.of (x1)), (2, VP.of (x2)), (3, VP.of (x3)), (4, VP.of (x4)), (5, VP.eq (.pointer (some ⟨p1, 0, none⟩))), (6, VP.eq (.pointer (some ⟨p2, 0, none⟩))), (9, VP.eq (.pointer (some ⟨p3, 0, none⟩))), (10, VP.eq (.pointer (some ⟨p4, 0, none⟩))), (11, VP.of (false)), (12, VP.of (q1.1)), (24, VP.of ((decide (x2 < 0)) || (decide (x2 ≥ 6)))), (29, VP.of (decide (y1 < 0))), (32, VP.of (x0.f_Sessions)), (33, VP.of (x0.f_Sessions.length : Int)), (34, VP.of (q1.2.1)), (35, VP.of (q1.2.2.1)), (53, VP.of (q1.2.2.2))]) q1) (fun q1 g1 => Sum.elim (fun q1 => [⟨some p4, .var ((default : T_ref20_State) : T_ref20_State)⟩, ⟨some p3, .var (x4 : T_api_Value)⟩, ⟨some p2, .var (x1 : T_api_Schema)⟩, ⟨some p1, .var (x0 : T_ref20_State)⟩]) (fun q1 => [⟨some p4, .var ((default : T_ref20_State) : T_ref20_State)⟩, ⟨some p3, .var (x4 : T_api_Value)⟩, ⟨some p2, .var (x1 : T_api_Schema)⟩, ⟨some p1, .var (x0 : T_ref20_State)⟩]) q1) () rfl (.same rfl (.same rfl (.same rfl (.same rfl (.same rfl (.same rfl (.same rfl (.same rfl (.same rfl (.same rfl (.same rfl (.same rfl (.same rfl (.same rfl (.same rfl (.same rfl .nil)))))))))))))))) (fun s1 r h g1 => ?_) (fun g1 => ?_)
      · clear hl
        refine Wp.seq ?_
        refine Wp.reg ?_
        refine Sq.v (r_lss (look_t rfl) (look_t rfl)) rfl rfl rfl ?_
        refine Sq.nil ?_
        refine To.next ?_
        refine Wp.seq ?_
        refine Wp.cond (look_t rfl) (fun hc => ?_) (fun hc => ?_)
        · replace h := cond_t hc h
          refine Wp.skip ?_
          refine To.next ?_
          refine Wp.seq ?_
          refine Wp.block ?_
          refine Wp.seq ?_
          refine Wp.reg ?_
          obtain ⟨k1, hk1, h⟩ := bind_some h
          refine Sq.v (r_ias (k := k1) Try.underlying41 ty145 (look_t rfl) (look_t rfl) (idx_some hk1)) rfl rfl rfl ?_
          refine Sq.v (r_loadp ty145 (look_t rfl)) rfl rfl rfl ?_
          refine Sq.alloc zr145 rfl fun p5 => ?_
          refine Sq.store (i := 0) (Lens.id T_ref20_Session) (v := (lget x0.f_Sessions k1 : T_ref20_Session)) (b' := (lget x0.f_Sessions k1 : T_ref20_Session)) ty145 (look_t rfl) (look_t rfl) rfl rfl rfl ?_
          refine Sq.nil ?_
          refine To.next ?_
          refine Wp.seq ?_
          refine Wp.reg ?_
          refine Sq.v (r_fa fd145_0 (look_t rfl)) rfl rfl rfl ?_
          refine Sq.v (r_load (i := 0) ((Lens.id T_ref20_Session).comp le_T_ref20_Session_Controller) (r := (lget x0.f_Sessions k1).f_Controller) ty3 (look_t rfl) rfl rfl rfl) rfl rfl rfl ?_
          refine Sq.v (r_move (look_t rfl)) rfl rfl rfl ?_
          refine Sq.v (r_neq (look_t rfl) (look_t rfl)) rfl rfl rfl ?_
          refine Sq.v (r_move (look_t rfl)) rfl rfl rfl ?_
          refine Sq.g (fun hb => r_fa fd145_1 (look_t rfl)) rfl rfl rfl rfl rfl ?_
          refine Sq.g (fun hb => r_load (i := 0) ((Lens.id T_ref20_Session).comp le_T_ref20_Session_Role) (r := (lget x0.f_Sessions k1).f_Role) ty3 (look_tc rfl hb) rfl rfl rfl) rfl rfl rfl rfl rfl ?_
          refine Sq.g (fun hb => r_move (look_t rfl)) rfl rfl rfl rfl rfl ?_
          refine Sq.g (fun hb => r_eql (look_tc rfl hb) (look_tc rfl hb)) rfl rfl rfl rfl rfl ?_
          obtain ⟨z1, hz1, h⟩ := bind_some h
          refine Sq.v ((r_and (look_t rfl) (look_t rfl) (fun h => h)).as (some_in hz1)) rfl rfl rfl ?_
          refine Sq.v (r_move (look_t rfl)) rfl rfl rfl ?_
          refine Sq.g (fun hb => r_fa fd145_2 (look_t rfl)) rfl rfl rfl rfl rfl ?_
          refine Sq.g (fun hb => r_load (i := 0) ((Lens.id T_ref20_Session).comp le_T_ref20_Session_Election) (r := (lget x0.f_Sessions k1).f_Election) ty47 (look_tc rfl hb) rfl rfl rfl) rfl rfl rfl rfl rfl ?_
          refine Sq.g (fun hb => r_load (i := 2) (Lens.id T_api_Value) (r := x4) ty47 (look_t rfl) rfl rfl rfl) rfl rfl rfl rfl rfl ?_
          refine Sq.g (fun hb => r_eqA eqv47 rfl eqg47 rfl (look_tc rfl hb) (look_tc rfl hb)) rfl rfl rfl rfl rfl ?_
          refine Sq.v (r_and (look_t rfl) (look_t rfl) (fun h => h)) rfl rfl rfl ?_
          refine Sq.nil ?_
          refine To.next ?_
          refine Wp.cond (look_t rfl) (fun hc => ?_) (fun hc => ?_)
          · replace h := cond_t hc h
            refine Wp.seq ?_
            refine Wp.reg ?_
            refine Sq.v (r_build (b := (default : T_ref20_State)) rfl bu44 zr44 (.nil)) rfl rfl rfl ?_
            refine Sq.store (i := 1) (Lens.id T_ref20_State) (v := ((default : T_ref20_State) : T_ref20_State)) (b' := ((default : T_ref20_State) : T_ref20_State)) ty44 (look_t rfl) (look_t rfl) rfl rfl rfl ?_
            refine Sq.v (r_asg (look_bool false)) rfl rfl rfl ?_
            refine Sq.v (r_asg (look_int 23)) rfl rfl rfl ?_
            refine Sq.nil ?_
            refine To.next ?_
            refine Wp.ret ?_
            refine To.bret ?_
            refine To.ret ?_
            replace h := some_in h
            subst h
            exact To.leaveG () 1 rfl (by simp) rfl (.same rfl (.same rfl (.same rfl (.same rfl (.same rfl (.same rfl (.same rfl (.same rfl (.same rfl (.same rfl (.same rfl (.same rfl (.same rfl (.same rfl (.same rfl (.same rfl (.same rfl (.same rfl .nil))))))))))))))))))
          · replace h := cond_f hc h
            refine Wp.skip ?_
            refine To.bnorm ?_
            refine To.next ?_
            refine Wp.reg ?_
            refine Sq.v (r_add (look_t rfl) (look_int 1)) rfl rfl rfl ?_
            refine Sq.v (r_move (look_t rfl)) rfl rfl rfl ?_
            refine Sq.nil ?_
            replace h := some_in h
            subst h
            exact To.roundG () 1 rfl (.same rfl (.same rfl (.same rfl (.same rfl (.same rfl (.same rfl (.same rfl (.same rfl (.same rfl (.same rfl (.same rfl (.same rfl (.same rfl (.same rfl (.same rfl (.same rfl .nil))))))))))))))))
        · replace h := cond_f hc h
          refine Wp.exit ?_
          refine To.exit ?_
          replace h := some_in h
          subst h
          exact To.leaveG () 0 rfl (by simp) rfl (.same rfl (.same rfl (.same rfl (.same rfl (.same rfl (.same rfl (.same rfl (.same rfl (.same rfl (.same rfl (.same rfl (.same rfl (.same rfl (.same rfl (.same rfl (.same rfl (.same rfl .nil)))))))))))))))))
      · clear hl
        rcases e1 with e1 | e1
        · simp only [Sum.elim_inl] at h
          refine To.bexit ?_
          refine To.next ?_
          refine Wp.seq ?_
          refine Wp.seq ?_
          refine Wp.reg ?_
          refine Sq.v (r_load (i := 1) (Lens.id T_api_Value) (r := x4) ty47 (look_t rfl) rfl rfl rfl) rfl rfl rfl ?_
          refine Sq.v (r_build (b := (default : T_api_Value)) rfl bu47 zr47 (.nil)) rfl rfl rfl ?_
          refine Sq.v (r_eqA eqv47 rfl eqg47 rfl (look_t rfl) (look_t rfl)) rfl rfl rfl ?_
          refine Sq.nil ?_
          refine To.next ?_
          refine Wp.cond (look_t rfl) (fun hc => ?_) (fun hc => ?_)
          · replace h := cond_t hc h
            refine Wp.seq ?_
            refine Wp.reg ?_
            refine Sq.v (r_build (b := (default : T_ref20_State)) rfl bu44 zr44 (.nil)) rfl rfl rfl ?_
            refine Sq.store (i := 0) (Lens.id T_ref20_State) (v := ((default : T_ref20_State) : T_ref20_State)) (b' := ((default : T_ref20_State) : T_ref20_State)) ty44 (look_t rfl) (look_t rfl) rfl rfl rfl ?_
            refine Sq.v (r_asg (look_bool false)) rfl rfl rfl ?_
            refine Sq.v (r_asg (look_int 23)) rfl rfl rfl ?_
            refine Sq.nil ?_
            refine To.next ?_
            refine Wp.ret ?_
            refine To.ret ?_
            replace h := some_in h
            subst h
            exact To.end3 rfl (rv_c (i := 0) ty44 rfl rfl) (rv_t rfl) (rv_t rfl)
          · replace h := cond_f hc h
            refine Wp.skip ?_
            refine To.next ?_
            refine Wp.seq ?_
            refine Wp.reg ?_
            refine Sq.v (r_load (i := 3) (Lens.id T_ref20_State) (r := x0) ty44 (look_t rfl) rfl rfl rfl) rfl rfl rfl ?_
            refine Sq.v (r_move (look_t rfl)) rfl rfl rfl ?_
            obtain ⟨y2, hy2, h⟩ := bind_some h
            refine Sq.callO (Lin := []) (Lr := [⟨some p4, .var ((default : T_ref20_State) : T_ref20_State)⟩, ⟨some p3, .var (x4 : T_api_Value)⟩, ⟨some p2, .var (x1 : T_api_Schema)⟩, ⟨some p1, .var (x0 : T_ref20_State)⟩]) en62 (Cq0_1_ref20_without hy2) ⟨look_t rfl, look_t rfl, trivial⟩ rfl fun q2 => ?_
            refine Sq.allocX (z := (default : T_ref20_State)) [1] zh44_1 zr44 rfl fun p6 => ?_
            refine Sq.own (α := T_ref20_Top) 159 ?_
            refine Sq.storeW (i := 1) ty44 (look_t rfl) (look_t rfl) rfl ?_
            refine Sq.nil ?_
            refine To.next ?_
            refine Wp.seq ?_
            refine Wp.reg ?_
            refine Sq.v (r_asg (look_int 0)) rfl rfl rfl ?_
            refine Sq.nil ?_
            refine To.next ?_
            refine Wp.seq ?_
            refine Wp.block ?_
            obtain ⟨e2, hl, h⟩ := bind_some h
            refine Wp.loopG (σ := Int) (ε := (Int × Bool)) (γ := Unit) (δ := Unit) hl (fun s2 g2 => [(0, VP.of (x0)), (1, VP.of (x1)), (2, VP.of (x2)), (3, VP.of (x3)), (4, VP.of (x4)), (5, VP.eq (.pointer (some ⟨p1, 0, none⟩))), (6, VP.eq (.pointer (some ⟨p2, 0, none⟩))), (9, VP.eq (.pointer (some ⟨p3, 0, none⟩))), (10, VP.eq (.pointer (some ⟨p4, 0, none⟩))), (11, VP.of (false)), (12, VP.of (0 : Int)), (15, VP.eq (.pointer (some ⟨p6, 0, none⟩))), (16, VP.of (s2)), (24, VP.of ((decide (x2 < 0)) || (decide (x2 ≥ 6)))), (29, VP.of (decide (y1 < 0))), (32, VP.of (x0.f_Sessions)), (33, VP.of (x0.f_Sessions.length : Int)), (34, VP.of (e1.1)), (35, VP.of (e1.2)), (58, VP.of (decide (x4 = (default : T_api_Value))))]) (fun s2 g2 => [⟨none, .row 159 (([] : List T_ref20_Top) : List T_ref20_Top) 0⟩, ⟨some p6, .varX (({ y2 with f_Tops := [] } : T_ref20_State) : T_ref20_State) [(1, slv q2.1 y2.f_Tops.length q2.2)]⟩, ⟨q2.1, .row 159 (y2.f_Tops : List T_ref20_Top) q2.2⟩, ⟨some p4, .var ((default : T_ref20_State) : T_ref20_State)⟩, ⟨some p3, .var (x4 : T_api_Value)⟩, ⟨some p2, .var (x1 : T_api_Schema)⟩, ⟨some p1, .var (x0 : T_ref20_State)⟩]) (fun q3 => Exit.exit 2) (fun q3 g2 => [(0, VP.of (x0)), (1, VP.of (x1)), (2, VP.of (x2)), (3, VP.of (x3)), (4, VP.of (x4)), (5, VP.eq (.pointer (some ⟨p1, 0, none⟩))), (6, VP.eq (.pointer (some ⟨p2, 0, none⟩))), (9, VP.eq (.pointer (some ⟨p3, 0, none⟩))), (10, VP.eq (.pointer (some ⟨p4, 0, none⟩))), (11, VP.of (false)), (12, VP.of (0 : Int)), (15, VP.eq (.pointer (some ⟨p6, 0, none⟩))), (16, VP.of (q3.1)), (24, VP.of ((decide (x2 < 0)) || (decide (x2 ≥ 6)))), (29, VP.of (decide (y1 < 0))), (32, VP.of (x0.f_Sessions)), (33, VP.of (x0.f_Sessions.length : Int)), (34, VP.of (e1.1)), (35, VP.of (e1.2)), (58, VP.of (decide (x4 = (default : T_api_Value)))), (77, VP.of (q3.2))]) (fun q3 g2 => [⟨none, .row 159 (([] : List T_ref20_Top) : List T_ref20_Top) 0⟩, ⟨some p6, .varX (({ y2 with f_Tops := [] } : T_ref20_State) : T_ref20_State) [(1, slv q2.1 y2.f_Tops.length q2.2)]⟩, ⟨q2.1, .row 159 (y2.f_Tops : List T_ref20_Top) q2.2⟩, ⟨some p4, .var ((default : T_ref20_State) : T_ref20_State)⟩, ⟨some p3, .var (x4 : T_api_Value)⟩, ⟨some p2, .var (x1 : T_api_Schema)⟩, ⟨some p1, .var (x0 : T_ref20_State)⟩]) () rfl (.same rfl (.same rfl (.same rfl (.same rfl (.same rfl (.same rfl (.same rfl (.same rfl (.same rfl (.same rfl (.same rfl (.same rfl (.same rfl (.same rfl (.same rfl (.same rfl (.same rfl (.same rfl (.same rfl (.same rfl .nil)))))))))))))))))))) (fun s2 r h g2 => ?_) (fun g2 => ?_)
            · clear hl
              refine Wp.seq ?_
              refine Wp.seq ?_
              refine Wp.reg ?_
              refine Sq.v (r_move (look_t rfl)) rfl rfl rfl ?_
              refine Sq.v (r_fa fd44_0 (look_t rfl)) rfl rfl rfl ?_
              refine Sq.v (r_loadX (i := 1) ((Lens.id T_ref20_State).comp le_T_ref20_State_Sessions) (r := y2.f_Sessions) ty41 (look_t rfl) rfl rfl rfl (by rfl)) rfl rfl rfl ?_
              refine Sq.v (r_len Try.underlying41 (look_t rfl)) rfl rfl rfl ?_
              refine Sq.v (r_lss (look_t rfl) (look_t rfl)) rfl rfl rfl ?_
              refine Sq.v (r_move (look_t rfl)) rfl rfl rfl ?_
              refine Sq.g (fun hb => r_fa fd44_0 (look_t rfl)) rfl rfl rfl rfl rfl ?_
              refine Sq.g (fun hb => r_loadX (i := 1) ((Lens.id T_ref20_State).comp le_T_ref20_State_Sessions) (r := y2.f_Sessions) ty41 (look_tc rfl hb) rfl rfl rfl (by rfl)) rfl rfl rfl rfl rfl ?_
              refine Sq.g (fun hb => r_move (look_t rfl)) rfl rfl rfl rfl rfl ?_
              obtain ⟨k2, hk2, h⟩ := bind_some h
              refine Sq.g (fun hb => r_ias (k := k2) Try.underlying41 ty145 (look_tc rfl hb) (look_tc rfl hb) (idx_some (condM_some hk2 hb))) rfl rfl rfl rfl rfl ?_
              refine Sq.g (fun hb => r_fap le_T_ref20_Session_Controller fd145_0 (look_tc rfl hb) rfl rfl) rfl rfl rfl rfl rfl ?_
              refine Sq.g (fun hb => r_loadp ty3 (look_tc rfl hb)) rfl rfl rfl rfl rfl ?_
              refine Sq.g (fun hb => r_move (look_t rfl)) rfl rfl rfl rfl rfl ?_
              refine Sq.g (fun hb => r_lss (look_tc rfl hb) (look_tc rfl hb)) rfl rfl rfl rfl rfl ?_
              obtain ⟨z2, hz2, h⟩ := bind_some h
              refine Sq.v ((r_and (look_t rfl) (look_t rfl) (fun h => h)).as (some_in hz2)) rfl rfl rfl ?_
              refine Sq.nil ?_
              refine To.next ?_
              refine Wp.cond (look_t rfl) (fun hc => ?_) (fun hc => ?_)
              · replace h := cond_t hc h
                refine Wp.skip ?_
                refine To.next ?_
                refine Wp.block ?_
                refine Wp.reg ?_
                refine Sq.v (r_move (look_t rfl)) rfl rfl rfl ?_
                refine Sq.v (r_add (look_t rfl) (look_int 1)) rfl rfl rfl ?_
                refine Sq.v (r_asg (look_t rfl)) rfl rfl rfl ?_
                refine Sq.nil ?_
                refine To.bnorm ?_
                replace h := some_in h
                subst h
                exact To.roundG () 0 rfl (.same rfl (.same rfl (.same rfl (.same rfl (.same rfl (.same rfl (.same rfl (.same rfl (.same rfl (.same rfl (.same rfl (.same rfl (.same rfl (.same rfl (.same rfl (.same rfl (.same rfl (.same rfl (.same rfl (.same rfl .nil))))))))))))))))))))
              · replace h := cond_f hc h
                refine Wp.exit ?_
                refine To.exit ?_
                replace h := some_in h
                subst h
                exact To.leaveG () 0 rfl (by simp) rfl (.same rfl (.same rfl (.same rfl (.same rfl (.same rfl (.same rfl (.same rfl (.same rfl (.same rfl (.same rfl (.same rfl (.same rfl (.same rfl (.same rfl (.same rfl (.same rfl (.same rfl (.same rfl (.same rfl (.same rfl (.same rfl .nil)))))))))))))))))))))
            · clear hl
              refine To.bexit ?_
              refine To.next ?_
              refine Wp.seq ?_
              obtain ⟨y3, hy3, h⟩ := bind_some h
              obtain ⟨y4, hy4, h⟩ := bind_some h
              obtain ⟨z3, hz3, h⟩ := bind_some h
              obtain ⟨y5, hy5, h⟩ := bind_some h
              obtain ⟨y6, hy6, h⟩ := bind_some h
              obtain ⟨y7, hy7, h⟩ := bind_some h
              refine Wp.keep 1 ?_
              refine Wp.le (E' := [(0, VP.of (x0)), (1, VP.of (x1)), (2, VP.of (x2)), (3, VP.of (x3)), (4, VP.of (x4)), (5, VP.eq (.pointer (some ⟨p1, 0, none⟩))), (6, VP.eq (.pointer (some ⟨p2, 0, none⟩))), (9, VP.eq (.pointer (some ⟨p3, 0, none⟩))), (10, VP.eq (.pointer (some ⟨p4, 0, none⟩))), (11, VP.of (false)), (12, VP.of (0 : Int)), (15, VP.eq (.pointer (some ⟨p6, 0, none⟩))), (16, VP.of (e2.1)), (24, VP.of ((decide (x2 < 0)) || (decide (x2 ≥ 6)))), (29, VP.of (decide (y1 < 0))), (32, VP.of (x0.f_Sessions)), (33, VP.of (x0.f_Sessions.length : Int)), (34, VP.of (e1.1)), (35, VP.of (e1.2)), (58, VP.of (decide (x4 = (default : T_api_Value)))), (77, VP.of (e2.2))]) (.same rfl (.same rfl (.same rfl (.same rfl (.same rfl (.same rfl (.same rfl (.same rfl (.same rfl (.same rfl (.same rfl (.same rfl (.same rfl (.same rfl (.same rfl (.same rfl (.same rfl (.same rfl (.same rfl (.same rfl (.same rfl .nil))))))))))))))))))))) ?_
              refine Wp.drawD mixed (⟨some 80, [], (7 :: []), (7 :: []), fun hd => VP.eq (slv (hd 0 0) ([] : List T_ref20_Session).length 0), fun hd _ => ⟨(hd 0 0), .row 145 (([] : List T_ref20_Session) : List T_ref20_Session) 0⟩⟩ :: ⟨some 81, [], [], [], fun _ => VP.eq (.pointer (some ⟨p6, 0 + 0, none⟩)), fun _ _ => ⟨none, .dead⟩⟩ :: ⟨some 82, (1 :: []), (1 :: []), [], fun _ => VP.of (y2.f_Sessions), fun _ _ => ⟨none, .dead⟩⟩ :: ⟨some 83, [], [], [], fun _ => VP.of (e2.1), fun _ _ => ⟨none, .dead⟩⟩ :: ⟨some 84, (2 :: 3 :: []), [], [], fun _ => VP.of (y3), fun _ _ => ⟨none, .dead⟩⟩ :: ⟨some 85, (0 :: 4 :: []), (7 :: []), (7 :: []), fun hd => VP.eq (slv (hd 5 0) y4.length ((hd 5 1).getD 0)), fun hd _ => ⟨(hd 5 0), .row 145 (y4 : List T_ref20_Session) ((hd 5 1).getD 0)⟩⟩ :: ⟨some 86, [], [], [], fun _ => VP.of (x2), fun _ _ => ⟨none, .dead⟩⟩ :: ⟨some 87, [], [], [], fun _ => VP.of (x3), fun _ _ => ⟨none, .dead⟩⟩ :: ⟨some 88, [], (4 :: []), [], fun _ => VP.of (x4), fun _ _ => ⟨none, .dead⟩⟩ :: ⟨some 89, (6 :: 7 :: 8 :: []), [], [], fun _ => VP.of (z3), fun _ _ => ⟨none, .dead⟩⟩ :: ⟨some 90, (9 :: []), [], [], fun _ => VP.of ([z3]), fun _ _ => ⟨none, .dead⟩⟩ :: ⟨some 91, (0 :: 5 :: 10 :: []), (7 :: []), (7 :: []), fun hd => VP.eq (slv (hd 11 0) y5.length ((hd 11 1).getD 0)), fun hd _ => ⟨(hd 11 0), .row 145 (y5 : List T_ref20_Session) ((hd 11 1).getD 0)⟩⟩ :: ⟨some 92, [], [], [], fun _ => VP.eq (.pointer (some ⟨p6, 0 + 0, none⟩)), fun _ _ => ⟨none, .dead⟩⟩ :: ⟨some 93, (12 :: []), (1 :: []), [], fun _ => VP.of (y2.f_Sessions), fun _ _ => ⟨none, .dead⟩⟩ :: ⟨some 94, [], [], [], fun _ => VP.of (e2.1), fun _ _ => ⟨none, .dead⟩⟩ :: ⟨some 95, (13 :: 14 :: []), [], [], fun _ => VP.of (y6), fun _ _ => ⟨none, .dead⟩⟩ :: ⟨some 96, (0 :: 5 :: 11 :: 15 :: []), (7 :: []), (7 :: []), fun hd => VP.eq (slv (hd 16 0) y7.length ((hd 16 1).getD 0)), fun hd _ => ⟨(hd 16 0), .row 145 (y7 : List T_ref20_Session) ((hd 16 1).getD 0)⟩⟩ :: ⟨some 97, [], [], [], fun _ => VP.eq (.pointer (some ⟨p6, 0 + 0, none⟩)), fun _ _ => ⟨none, .dead⟩⟩ :: ⟨none, (0 :: 2 :: 5 :: 11 :: 13 :: 16 :: 17 :: []), (1 :: 7 :: []), (1 :: 7 :: []), fun _ => VP.any, fun hd j => bif Nat.beq j 1 then ⟨some p6, .varX (({ ({ y2 with f_Tops := [] } : T_ref20_State) with f_Sessions := y7 } : T_ref20_State) : T_ref20_State) [(1, slv q2.1 y2.f_Tops.length q2.2)]⟩ else ⟨none, .dead⟩⟩ :: []) ((some 80, [], (7 :: []), (7 :: [])) :: (some 81, [], [], []) :: (some 82, (1 :: []), (1 :: []), []) :: (some 83, [], [], []) :: (some 84, (2 :: 3 :: []), [], []) :: (some 85, (0 :: 4 :: []), (7 :: []), (7 :: [])) :: (some 86, [], [], []) :: (some 87, [], [], []) :: (some 88, [], (4 :: []), []) :: (some 89, (6 :: 7 :: 8 :: []), [], []) :: (some 90, (9 :: []), [], []) :: (some 91, (0 :: 5 :: 10 :: []), (7 :: []), (7 :: [])) :: (some 92, [], [], []) :: (some 93, (12 :: []), (1 :: []), []) :: (some 94, [], [], []) :: (some 95, (13 :: 14 :: []), [], []) :: (some 96, (0 :: 5 :: 11 :: 15 :: []), (7 :: []), (7 :: [])) :: (some 97, [], [], []) :: (none, (0 :: 2 :: 5 :: 11 :: 13 :: 16 :: 17 :: []), (1 :: 7 :: []), (1 :: 7 :: [])) :: []) (0 :: 1 :: 2 :: 3 :: 4 :: 5 :: 6 :: 9 :: 10 :: 11 :: 12 :: 15 :: 16 :: 24 :: 29 :: 32 :: 33 :: 34 :: 35 :: 58 :: 77 :: []) rfl rfl (by kernel_rfl) ⟨?_, ?_, ?_, ?_, ?_, ?_, ?_, ?_, ?_, ?_, ?_, ?_, ?_, ?_, ?_, ?_, ?_, ?_, ?_, trivial⟩ fun hd => ?_
              · intro hd E' L' hE hL
                refine Sq.bslO (α := T_ref20_Session) (r := ([] : List T_ref20_Session)) Try.underlying41 ty145 zr145 rfl rfl (.nil) rfl fun key1 => ?_
                refine Sq.nil ?_
                refine To.place 7 (hL 7 _ rfl rfl) ?_
                exact To.fin (gm [key1]) rfl rfl
              · exact hd_v rfl rfl rfl fun hd E' L' hE hL => r_fa fd44_0 (look_t (hE _ _ rfl))
              · exact hd_v rfl rfl rfl fun hd E' L' hE hL => r_loadX (i := 1) ((Lens.id T_ref20_State).comp le_T_ref20_State_Sessions) (r := y2.f_Sessions) ty41 (look_t (hE _ _ rfl)) (hL 1 _ rfl rfl) rfl rfl (by rfl)
              · exact hd_v rfl rfl rfl fun hd E' L' hE hL => r_move (look_t (hE _ _ rfl))
              · exact hd_v rfl rfl rfl fun hd E' L' hE hL => r_slice Try.underlying41 ty145 (look_t (hE _ _ rfl)) .none (.some (look_t (hE _ _ rfl))) hy3
              · intro hd E' L' hE hL
                refine Sq.app (i := 7) Try.underlying41 ty145 zr145 (bytes := 32) (by kernel_rfl) (look_t (hE _ _ rfl)) (hL 7 _ rfl rfl) (look_t (hE _ _ rfl)) hy4 rfl fun key2 cap1 => ?_
                refine Sq.nil ?_
                exact To.fin (gm [key2, some cap1]) rfl rfl
              · exact hd_v rfl rfl rfl fun hd E' L' hE hL => r_move (look_t (hE _ _ rfl))
              · exact hd_v rfl rfl rfl fun hd E' L' hE hL => r_move (look_t (hE _ _ rfl))
              · exact hd_v rfl rfl rfl fun hd E' L' hE hL => r_load (i := 4) (Lens.id T_api_Value) (r := x4) ty47 (look_t (hE _ _ rfl)) (hL 4 _ rfl rfl) rfl rfl
              · exact hd_v rfl rfl rfl fun hd E' L' hE hL => (r_build (b := { f_Controller := x2, f_Role := x3, f_Election := x4 : T_ref20_Session }) rfl bu145 zr145 (.cons le_T_ref20_Session_Controller rfl (look_t (hE _ _ rfl)) rfl (.cons le_T_ref20_Session_Role rfl (look_t (hE _ _ rfl)) rfl (.cons le_T_ref20_Session_Election rfl (look_t (hE _ _ rfl)) rfl (.nil))))).as (some_in hz3)
              · exact hd_v rfl rfl rfl fun hd E' L' hE hL => r_bsl (r := [z3]) Try.underlying41 ty145 zr145 rfl rfl (.cons (by simp) (look_t (hE _ _ rfl)) (.nil))
              · intro hd E' L' hE hL
                refine Sq.app (i := 7) Try.underlying41 ty145 zr145 (bytes := 32) (by kernel_rfl) (look_t (hE _ _ rfl)) (hL 7 _ rfl rfl) (look_t (hE _ _ rfl)) hy5 rfl fun key3 cap2 => ?_
                refine Sq.nil ?_
                exact To.fin (gm [key3, some cap2]) rfl rfl
              · exact hd_v rfl rfl rfl fun hd E' L' hE hL => r_fa fd44_0 (look_t (hE _ _ rfl))
              · exact hd_v rfl rfl rfl fun hd E' L' hE hL => r_loadX (i := 1) ((Lens.id T_ref20_State).comp le_T_ref20_State_Sessions) (r := y2.f_Sessions) ty41 (look_t (hE _ _ rfl)) (hL 1 _ rfl rfl) rfl rfl (by rfl)
              · exact hd_v rfl rfl rfl fun hd E' L' hE hL => r_move (look_t (hE _ _ rfl))
              · exact hd_v rfl rfl rfl fun hd E' L' hE hL => r_slice Try.underlying41 ty145 (look_t (hE _ _ rfl)) (.some (look_t (hE _ _ rfl))) .none hy6
              · intro hd E' L' hE hL
                refine Sq.app (i := 7) Try.underlying41 ty145 zr145 (bytes := 32) (by kernel_rfl) (look_t (hE _ _ rfl)) (hL 7 _ rfl rfl) (look_t (hE _ _ rfl)) hy7 rfl fun key4 cap3 => ?_
                refine Sq.nil ?_
                exact To.fin (gm [key4, some cap3]) rfl rfl
              · exact hd_v rfl rfl rfl fun hd E' L' hE hL => r_fa fd44_0 (look_t (hE _ _ rfl))
              · intro hd E' L' hE hL
                refine Sq.storeZX' (i := 1) (j := 7) (xs := y7) (b' := (({ ({ y2 with f_Tops := [] } : T_ref20_State) with f_Sessions := y7 } : T_ref20_State) : T_ref20_State)) ((Lens.id T_ref20_State).comp le_T_ref20_State_Sessions) ty41 (hE _ _ rfl) rfl (hE _ _ rfl) (hL 1 _ rfl rfl) (hL 7 _ rfl rfl) rfl rfl rfl (by rfl) ?_
                refine Sq.nil ?_
                exact To.fin (gm []) rfl rfl
              refine To.eqL (L2 := [⟨none, .row 159 (([] : List T_ref20_Top) : List T_ref20_Top) 0⟩, ⟨some p6, .varX (({ ({ y2 with f_Tops := [] } : T_ref20_State) with f_Sessions := y7 } : T_ref20_State) : T_ref20_State) [(1, slv q2.1 y2.f_Tops.length q2.2)]⟩, ⟨q2.1, .row 159 (y2.f_Tops : List T_ref20_Top) q2.2⟩, ⟨some p4, .var ((default : T_ref20_State) : T_ref20_State)⟩, ⟨some p3, .var (x4 : T_api_Value)⟩, ⟨some p2, .var (x1 : T_api_Schema)⟩, ⟨some p1, .var (x0 : T_ref20_State)⟩, ⟨none, .dead⟩]) rfl ?_
              refine To.le (E' := [(0, VP.of (x0)), (1, VP.of (x1)), (2, VP.of (x2)), (3, VP.of (x3)), (4, VP.of (x4)), (5, VP.eq (.pointer (some ⟨p1, 0, none⟩))), (6, VP.eq (.pointer (some ⟨p2, 0, none⟩))), (9, VP.eq (.pointer (some ⟨p3, 0, none⟩))), (10, VP.eq (.pointer (some ⟨p4, 0, none⟩))), (11, VP.of (false)), (12, VP.of (0 : Int)), (15, VP.eq (.pointer (some ⟨p6, 0, none⟩))), (16, VP.of (e2.1)), (24, VP.of ((decide (x2 < 0)) || (decide (x2 ≥ 6)))), (29, VP.of (decide (y1 < 0))), (32, VP.of (x0.f_Sessions)), (33, VP.of (x0.f_Sessions.length : Int)), (34, VP.of (e1.1)), (35, VP.of (e1.2)), (58, VP.of (decide (x4 = (default : T_api_Value)))), (77, VP.of (e2.2)), (81, VP.eq (.pointer (some ⟨p6, 0 + 0, none⟩))), (82, VP.of (y2.f_Sessions)), (83, VP.of (e2.1)), (84, VP.of (y3)), (86, VP.of (x2)), (87, VP.of (x3)), (88, VP.of (x4)), (89, VP.of (z3)), (90, VP.of ([z3])), (92, VP.eq (.pointer (some ⟨p6, 0 + 0, none⟩))), (93, VP.of (y2.f_Sessions)), (94, VP.of (e2.1)), (95, VP.of (y6)), (97, VP.eq (.pointer (some ⟨p6, 0 + 0, none⟩)))]) (.same rfl (.same rfl (.same rfl (.same rfl (.same rfl (.same rfl (.same rfl (.same rfl (.same rfl (.same rfl (.same rfl (.same rfl (.same rfl (.same rfl (.same rfl (.same rfl (.same rfl (.same rfl (.same rfl (.same rfl (.same rfl (.same rfl (.same rfl (.same rfl (.same rfl (.same rfl (.same rfl (.same rfl (.same rfl (.same rfl (.same rfl (.same rfl (.same rfl (.same rfl (.same rfl .nil))))))))))))))))))))))))))))))))))) ?_
              refine To.bring 7 rfl ?_
              refine To.next ?_
              refine Wp.seq ?_
              refine Wp.seq ?_
              obtain ⟨y8, hy8, h⟩ := bind_some h
              obtain ⟨y9, hy9, h⟩ := bind_some h
              refine Wp.draw mixed 6 [some 98, some 99, some 100, some 101, some 102, some 103] [[], [], [], [1, 2], [0, 3], [4]] [.val (VP.of (x4)), .val (VP.of (x0)), .val (VP.of (x3)), .val (VP.of (y8)), .val (VP.of (y9)), .val (VP.of (decide (y9 > 0)))] [false, false, false, false, false, false] (by kernel_rfl) rfl rfl rfl (fun ps1 => ⟨fun L' hL => HO.v (r_load (i := 5) (Lens.id T_api_Value) (r := x4) ty47 (look_t rfl) (hL _ _ rfl rfl) rfl rfl) rfl, fun L' hL => HO.v (r_load (i := 7) (Lens.id T_ref20_State) (r := x0) ty44 (look_t rfl) (hL _ _ rfl rfl) rfl rfl) rfl, fun L' hL => HO.v (r_move (look_t rfl)) rfl, fun L' hL => HO.v (r_call en74 (C_ref20_top hy8) ⟨look_t rfl, look_t rfl, trivial⟩) rfl, fun L' hL => HO.v (r_call en73 (C_ref01_Compare hy9) ⟨look_t rfl, look_t rfl, trivial⟩) rfl, fun L' hL => HO.v (r_gtr (look_t rfl) (look_int 0)) rfl, trivial⟩) fun ps1 => ?_
              refine Sq.nil ?_
              refine To.next ?_
              obtain ⟨m1, hm1, h⟩ := bind_some h
              refine Wp.condM (γ := (Option Nat × Nat)) (fun g3 => [(0, VP.of (x0)), (1, VP.of (x1)), (2, VP.of (x2)), (3, VP.of (x3)), (4, VP.of (x4)), (5, VP.eq (.pointer (some ⟨p1, 0, none⟩))), (6, VP.eq (.pointer (some ⟨p2, 0, none⟩))), (9, VP.eq (.pointer (some ⟨p3, 0, none⟩))), (10, VP.eq (.pointer (some ⟨p4, 0, none⟩))), (11, VP.of (false)), (12, VP.of (0 : Int)), (15, VP.eq (.pointer (some ⟨p6, 0, none⟩))), (16, VP.of (e2.1)), (24, VP.of ((decide (x2 < 0)) || (decide (x2 ≥ 6)))), (29, VP.of (decide (y1 < 0))), (32, VP.of (x0.f_Sessions)), (33, VP.of (x0.f_Sessions.length : Int)), (34, VP.of (e1.1)), (35, VP.of (e1.2)), (58, VP.of (decide (x4 = (default : T_api_Value)))), (77, VP.of (e2.2)), (103, VP.of (decide (y9 > 0)))]) (fun g3 => [⟨none, .dead⟩, ⟨none, .row 159 (([] : List T_ref20_Top) : List T_ref20_Top) 0⟩, ⟨some p6, .varX (m1.1 : T_ref20_State) [(1, slv g3.1 m1.2.length g3.2)]⟩, ⟨g3.1, .row 159 (m1.2 : List T_ref20_Top) g3.2⟩, ⟨some p4, .var ((default : T_ref20_State) : T_ref20_State)⟩, ⟨some p3, .var (x4 : T_api_Value)⟩, ⟨some p2, .var (x1 : T_api_Schema)⟩, ⟨some p1, .var (x0 : T_ref20_State)⟩]) (look_t rfl) (fun g3 => ?_) (fun hm hc => ?_) (fun hm hc => ?_)
              · clear hm1
                refine To.next ?_
                refine Wp.seq ?_
                refine Wp.reg ?_
                refine Sq.thaw (β := T_ref20_State) (γ := T_ref20_Top) (b' := (({ m1.1 with f_Tops := m1.2 } : T_ref20_State) : T_ref20_State)) ((Lens.id T_ref20_State).comp le_T_ref20_State_Tops) 2 3 0 rfl rfl rfl rfl rfl rfl ?_
                refine Sq.fromX 2 rfl ?_
                refine Sq.v (r_load (i := 2) (Lens.id T_ref20_State) (r := ({ m1.1 with f_Tops := m1.2 } : T_ref20_State)) ty44 (look_t rfl) rfl rfl rfl) rfl rfl rfl ?_
                refine Sq.v (r_move (look_t rfl)) rfl rfl rfl ?_
                obtain ⟨y10, hy10, h⟩ := bind_some h
                refine Sq.v (r_call en29 (C_ref20_Primary hy10) ⟨look_t rfl, look_t rfl, trivial⟩) rfl rfl rfl ?_
                refine Sq.v (r_move (look_t rfl)) rfl rfl rfl ?_
                refine Sq.v (r_ext (look_t rfl) rfl) rfl rfl rfl ?_
                refine Sq.v (r_ext (look_t rfl) rfl) rfl rfl rfl ?_
                refine Sq.v (r_asg (look_t rfl)) rfl rfl rfl ?_
                refine Sq.v (r_asg (look_t rfl)) rfl rfl rfl ?_
                refine Sq.nil ?_
                refine To.next ?_
                refine Wp.seq ?_
                refine Wp.reg ?_
                refine Sq.v (r_load (i := 2) (Lens.id T_ref20_State) (r := ({ m1.1 with f_Tops := m1.2 } : T_ref20_State)) ty44 (look_t rfl) rfl rfl rfl) rfl rfl rfl ?_
                refine Sq.v (r_move (look_t rfl)) rfl rfl rfl ?_
                refine Sq.v (r_move (look_t rfl)) rfl rfl rfl ?_
                refine Sq.g (fun hb => r_move (look_t rfl)) rfl rfl rfl rfl rfl ?_
                refine Sq.g (fun hb => r_move (look_t rfl)) rfl rfl rfl rfl rfl ?_
                refine Sq.g (fun hb => r_eql (look_tc rfl hb) (look_tc rfl hb)) rfl rfl rfl rfl rfl ?_
                refine Sq.v (r_and (look_t rfl) (look_t rfl) (fun h => h)) rfl rfl rfl ?_
                refine Sq.store (i := 4) (Lens.id T_ref20_State) (v := (({ m1.1 with f_Tops := m1.2 } : T_ref20_State) : T_ref20_State)) (b' := (({ m1.1 with f_Tops := m1.2 } : T_ref20_State) : T_ref20_State)) ty44 (look_t rfl) (look_t rfl) rfl rfl rfl ?_
                refine Sq.v (r_asg (look_t rfl)) rfl rfl rfl ?_
                refine Sq.v (r_asg (look_int 0)) rfl rfl rfl ?_
                refine Sq.nil ?_
                refine To.next ?_
                refine Wp.ret ?_
                replace h := some_in h
                subst h
                exact To.end3 rfl (rv_c (i := 4) ty44 rfl rfl) (rv_t rfl) (rv_t rfl)
              · have h := cond_t hc hm1
                refine Wp.reg ?_
                refine Sq.v (r_fa fd44_1 (look_t rfl)) rfl rfl rfl ?_
                refine Sq.v (r_loadH (i := 2) (q := 0) (β := T_ref20_State) (γ := T_ref20_Top) ty42 (look_t rfl) rfl rfl) rfl rfl rfl ?_
                refine Sq.v (r_move (look_t rfl)) rfl rfl rfl ?_
                refine Sq.v (r_load (i := 5) (Lens.id T_api_Value) (r := x4) ty47 (look_t rfl) rfl rfl rfl) rfl rfl rfl ?_
                refine Sq.bring 3 rfl ?_
                obtain ⟨y11, hy11, h⟩ := bind_some h
                refine Sq.callO (Lin := [⟨q2.1, .row 159 (y2.f_Tops : List T_ref20_Top) q2.2⟩]) (Lr := [⟨none, .dead⟩, ⟨none, .row 159 (([] : List T_ref20_Top) : List T_ref20_Top) 0⟩, ⟨some p6, .varX (({ ({ y2 with f_Tops := [] } : T_ref20_State) with f_Sessions := y7 } : T_ref20_State) : T_ref20_State) [(1, slv q2.1 y2.f_Tops.length q2.2)]⟩, ⟨some p4, .var ((default : T_ref20_State) : T_ref20_State)⟩, ⟨some p3, .var (x4 : T_api_Value)⟩, ⟨some p2, .var (x1 : T_api_Schema)⟩, ⟨some p1, .var (x0 : T_ref20_State)⟩]) en75 (Cop0_ref20_raise hy11) ⟨look_t rfl, look_t rfl, look_t rfl, trivial⟩ rfl fun q4 => ?_
                refine Sq.v (r_fa fd44_1 (look_t rfl)) rfl rfl rfl ?_
                refine Sq.storeH (i := 3) (γ := T_ref20_Top) (b' := (({ ({ ({ y2 with f_Tops := [] } : T_ref20_State) with f_Sessions := y7 } : T_ref20_State) with f_Tops := [] } : T_ref20_State) : T_ref20_State)) (os' := [(1, slv q4.1 y11.length q4.2)]) ((Lens.id T_ref20_State).comp le_T_ref20_State_Tops) ty42 (look_t rfl) (look_t rfl) slv_one rfl rfl rfl rfl ?_
                refine Sq.nil ?_
                refine To.bring 3 rfl ?_
                refine To.bring 3 rfl ?_
                refine To.bring 3 rfl ?_
                replace h := some_in h
                subst h
                exact To.meet 0 rfl (.same rfl (.same rfl (.same rfl (.same rfl (.same rfl (.same rfl (.same rfl (.same rfl (.same rfl (.same rfl (.same rfl (.same rfl (.same rfl (.same rfl (.same rfl (.same rfl (.same rfl (.same rfl (.same rfl (.same rfl (.same rfl (.same rfl .nil)))))))))))))))))))))) (hm (q4.1, q4.2))
              · have h := cond_f hc hm1
                refine Wp.skip ?_
                replace h := some_in h
                subst h
                exact To.meet 0 rfl (.same rfl (.same rfl (.same rfl (.same rfl (.same rfl (.same rfl (.same rfl (.same rfl (.same rfl (.same rfl (.same rfl (.same rfl (.same rfl (.same rfl (.same rfl (.same rfl (.same rfl (.same rfl (.same rfl (.same rfl (.same rfl (.same rfl .nil)))))))))))))))))))))) (hm (q2.1, q2.2))
        · simp only [Sum.elim_inr] at h
          refine To.bret ?_
          refine To.ret ?_
          replace h := some_in h
          subst h
          exact To.end3 rfl (rv_c (i := 0) ty44 rfl rfl) (rv_t rfl) (rv_t rfl)
end Go.Proofs.Ytodajdohokmjnaa
