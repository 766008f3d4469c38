/-
  Printed by the decompiler (dec.py) out of the seat's translation. Each function meets its functional program. Conditions: none.
-/
import Derived.Test.YtodajdohokmjnaaDl
namespace Go.Proofs.Ytodajdohokmjnaa
open Go Gv
set_option linter.unusedVariables false
set_option linter.unusedSimpArgs false
set_option maxRecDepth 100000
set_option maxHeartbeats 2000000 in
theorem Cq0_1_ref20_without {x0 : T_ref20_State} {x1 : Int}  {r : T_ref20_State} (h : Lq0_1_ref20_without x0 x1 = some r) : MeetsO Try.prog 62 [VP.of (x0), VP.of (x1)] [] (δ := (Option Nat × Nat)) (fun d => VP.ofX (({ r with f_Tops := [] } : T_ref20_State) : T_ref20_State) [(1, slv d.1 (r.f_Tops).length d.2)]) (fun d => [⟨d.1, .row 159 (r.f_Tops : List T_ref20_Top) d.2⟩]) := by
  unfold Lq0_1_ref20_without at h
  refine MeetsO.of Try.func62 rfl Try.ntmps62 rfl fun W A => ?_
  refine Wp.seq ?_
  refine Wp.reg ?_
  refine Sq.box (z := (x0 : T_ref20_State)) (look_t rfl) rfl fun p1 => ?_
  refine Sq.allocX (z := (default : T_ref20_State)) [1] zh44_1 zr44 rfl fun p2 => ?_
  refine Sq.own (α := T_ref20_Top) 159 ?_
  refine Sq.nil ?_
  refine To.next ?_
  refine Wp.seq ?_
  refine Wp.reg ?_
  refine Sq.bslO (α := T_ref20_Top) (r := ([] : List T_ref20_Top)) Try.underlying42 ty159 zr159 rfl rfl (.nil) rfl fun key1 => ?_
  refine Sq.v (r_fa fd44_1 (look_t rfl)) rfl rfl rfl ?_
  refine Sq.v (r_load (i := 3) ((Lens.id T_ref20_State).comp le_T_ref20_State_Tops) (r := x0.f_Tops) ty42 (look_t rfl) rfl rfl rfl) rfl rfl rfl ?_
  obtain ⟨y1, hy1, h⟩ := bind_some h
  refine Sq.app (i := 0) Try.underlying42 ty159 zr159 (bytes := 24) (by kernel_rfl) (look_t rfl) rfl (look_t rfl) hy1 rfl fun key2 cap1 => ?_
  refine Sq.v (r_buildX (b := (default : T_ref20_State)) [0] zh44_0 rfl bu44 zr44 (.hole le_T_ref20_State_Tops rfl (look_t rfl) slv_one rfl rfl (.nil))) rfl rfl rfl ?_
  refine Sq.own (α := T_ref20_Session) 145 ?_
  refine Sq.allocX (z := (default : T_ref20_State)) [0, 1] zh44_0_1 zr44 rfl fun p3 => ?_
  refine Sq.own (α := T_ref20_Session) 145 ?_
  refine Sq.own (α := T_ref20_Top) 159 ?_
  refine Sq.storeW (i := 2) ty44 (look_t rfl) (look_t rfl) rfl ?_
  refine Sq.nil ?_
  refine To.next ?_
  refine Wp.seq ?_
  refine Wp.seq ?_
  refine Wp.reg ?_
  refine Sq.v (r_fa fd44_0 (look_t rfl)) rfl rfl rfl ?_
  refine Sq.v (r_load (i := 7) ((Lens.id T_ref20_State).comp le_T_ref20_State_Sessions) (r := x0.f_Sessions) ty41 (look_t rfl) rfl rfl rfl) rfl rfl rfl ?_
  refine Sq.v (r_len Try.underlying41 (look_t rfl)) rfl rfl rfl ?_
  refine Sq.v (r_move (look_int 0)) rfl rfl rfl ?_
  refine Sq.nil ?_
  refine To.next ?_
  refine Wp.block ?_
  obtain ⟨e1, hl, h⟩ := bind_some h
  refine Wp.loopG (σ := Int × T_ref20_State × (List T_ref20_Session)) (ε := (Int × Bool × T_ref20_State × (List T_ref20_Session))) (γ := (Option Nat × Nat)) (δ := (Option Nat × Nat)) hl (fun s1 g1 => [(0, VP.of (x0)), (1, VP.of (x1)), (2, VP.eq (.pointer (some ⟨p1, 0, none⟩))), (4, VP.eq (.pointer (some ⟨p2, 0, none⟩))), (5, VP.eq (.pointer (some ⟨p3, 0, none⟩))), (14, VP.of (x0.f_Sessions)), (15, VP.of (x0.f_Sessions.length : Int)), (16, VP.of (s1.1))]) (fun s1 g1 => [⟨none, .row 159 (([] : List T_ref20_Top) : List T_ref20_Top) 0⟩, ⟨none, .row 145 (([] : List T_ref20_Session) : List T_ref20_Session) 0⟩, ⟨some p3, .varX (s1.2.1 : T_ref20_State) [(1, slv key2 y1.length cap1), (0, slv g1.1 s1.2.2.length g1.2)]⟩, ⟨g1.1, .row 145 (s1.2.2 : List T_ref20_Session) g1.2⟩, ⟨key2, .row 159 (y1 : List T_ref20_Top) cap1⟩, ⟨none, .row 159 (([] : List T_ref20_Top) : List T_ref20_Top) 0⟩, ⟨some p2, .varX ((default : T_ref20_State) : T_ref20_State) [(1, slv none ([] : List T_ref20_Top).length 0)]⟩, ⟨some p1, .var (x0 : T_ref20_State)⟩]) (fun q1 => Exit.exit 0) (fun q1 g1 => [(0, VP.of (x0)), (1, VP.of (x1)), (2, VP.eq (.pointer (some ⟨p1, 0, none⟩))), (4, VP.eq (.pointer (some ⟨p2, 0, none⟩))), (5, VP.eq (.pointer (some ⟨p3, 0, none⟩))), (14, VP.of (x0.f_Sessions)), (15, VP.of (x0.f_Sessions.length : Int)), (16, VP.of (q1.1)), (17, VP.of (q1.2.1))]) (fun q1 g1 => [⟨none, .row 159 (([] : List T_ref20_Top) : List T_ref20_Top) 0⟩, ⟨none, .row 145 (([] : List T_ref20_Session) : List T_ref20_Session) 0⟩, ⟨some p3, .varX (q1.2.2.1 : T_ref20_State) [(1, slv key2 y1.length cap1), (0, slv g1.1 q1.2.2.2.length g1.2)]⟩, ⟨g1.1, .row 145 (q1.2.2.2 : List T_ref20_Session) g1.2⟩, ⟨key2, .row 159 (y1 : List T_ref20_Top) cap1⟩, ⟨none, .row 159 (([] : List T_ref20_Top) : List T_ref20_Top) 0⟩, ⟨some p2, .varX ((default : T_ref20_State) : T_ref20_State) [(1, slv none ([] : List T_ref20_Top).length 0)]⟩, ⟨some p1, .var (x0 : T_ref20_State)⟩]) (none, 0) rfl (.same rfl (.same rfl (.same rfl (.same rfl (.same rfl (.same rfl (.same rfl (.same rfl .nil)))))))) (fun s1 r h g1 => ?_) (fun g1 => ?_)
  · clear hl
    refine Wp.seq ?_
    refine Wp.reg ?_
    refine Sq.v (r_lss (look_t rfl) (look_t rfl)) rfl rfl rfl ?_
    refine Sq.nil ?_
    refine To.next ?_
    refine Wp.seq ?_
    refine Wp.cond (look_t rfl) (fun hc => ?_) (fun hc => ?_)
    · replace h := cond_t hc h
      refine Wp.skip ?_
      refine To.next ?_
      refine Wp.seq ?_
      refine Wp.block ?_
      refine Wp.seq ?_
      refine Wp.reg ?_
      obtain ⟨k1, hk1, h⟩ := bind_some h
      refine Sq.v (r_ias (k := k1) Try.underlying41 ty145 (look_t rfl) (look_t rfl) (idx_some hk1)) rfl rfl rfl ?_
      refine Sq.v (r_loadp ty145 (look_t rfl)) rfl rfl rfl ?_
      refine Sq.alloc zr145 rfl fun p4 => ?_
      refine Sq.store (i := 0) (Lens.id T_ref20_Session) (v := (lget x0.f_Sessions k1 : T_ref20_Session)) (b' := (lget x0.f_Sessions k1 : T_ref20_Session)) ty145 (look_t rfl) (look_t rfl) rfl rfl rfl ?_
      refine Sq.nil ?_
      refine To.next ?_
      refine Wp.seq ?_
      refine Wp.reg ?_
      refine Sq.v (r_fa fd145_0 (look_t rfl)) rfl rfl rfl ?_
      refine Sq.v (r_load (i := 0) ((Lens.id T_ref20_Session).comp le_T_ref20_Session_Controller) (r := (lget x0.f_Sessions k1).f_Controller) ty3 (look_t rfl) rfl rfl rfl) rfl rfl rfl ?_
      refine Sq.v (r_move (look_t rfl)) rfl rfl rfl ?_
      refine Sq.v (r_neq (look_t rfl) (look_t rfl)) rfl rfl rfl ?_
      refine Sq.nil ?_
      refine To.next ?_
      obtain ⟨m1, hm1, h⟩ := bind_some h
      refine Wp.condM (γ := (Option Nat × Nat)) (fun g2 => [(0, VP.of (x0)), (1, VP.of (x1)), (2, VP.eq (.pointer (some ⟨p1, 0, none⟩))), (4, VP.eq (.pointer (some ⟨p2, 0, none⟩))), (5, VP.eq (.pointer (some ⟨p3, 0, none⟩))), (7, VP.eq (.pointer (some ⟨p4, 0, none⟩))), (14, VP.of (x0.f_Sessions)), (15, VP.of (x0.f_Sessions.length : Int)), (16, VP.of (s1.1)), (17, VP.of (decide (s1.1 < (x0.f_Sessions.length : Int)))), (23, VP.of (((lget x0.f_Sessions k1).f_Controller) != x1))]) (fun g2 => [⟨some p4, .var (lget x0.f_Sessions k1 : T_ref20_Session)⟩, ⟨none, .row 159 (([] : List T_ref20_Top) : List T_ref20_Top) 0⟩, ⟨none, .row 145 (([] : List T_ref20_Session) : List T_ref20_Session) 0⟩, ⟨some p3, .varX (m1.1 : T_ref20_State) [(1, slv key2 y1.length cap1), (0, slv g2.1 m1.2.length g2.2)]⟩, ⟨g2.1, .row 145 (m1.2 : List T_ref20_Session) g2.2⟩, ⟨key2, .row 159 (y1 : List T_ref20_Top) cap1⟩, ⟨none, .row 159 (([] : List T_ref20_Top) : List T_ref20_Top) 0⟩, ⟨some p2, .varX ((default : T_ref20_State) : T_ref20_State) [(1, slv none ([] : List T_ref20_Top).length 0)]⟩, ⟨some p1, .var (x0 : T_ref20_State)⟩]) (look_t rfl) (fun g2 => ?_) (fun hm hc => ?_) (fun hm hc => ?_)
      · clear hm1
        refine To.bnorm ?_
        refine To.next ?_
        refine Wp.reg ?_
        refine Sq.v (r_add (look_t rfl) (look_int 1)) rfl rfl rfl ?_
        refine Sq.v (r_move (look_t rfl)) rfl rfl rfl ?_
        refine Sq.nil ?_
        replace h := some_in h
        subst h
        exact To.roundG (g2.1, g2.2) 1 rfl (.same rfl (.same rfl (.same rfl (.same rfl (.same rfl (.same rfl (.same rfl (.same rfl .nil))))))))
      · have h := cond_t hc hm1
        refine Wp.reg ?_
        refine Sq.v (r_fa fd44_0 (look_t rfl)) rfl rfl rfl ?_
        refine Sq.v (r_loadH (i := 3) (q := 1) (β := T_ref20_State) (γ := T_ref20_Session) ty41 (look_t rfl) rfl rfl) rfl rfl rfl ?_
        refine Sq.v (r_load (i := 0) (Lens.id T_ref20_Session) (r := (lget x0.f_Sessions k1)) ty145 (look_t rfl) rfl rfl rfl) rfl rfl rfl ?_
        refine Sq.v (r_bsl (r := [(lget x0.f_Sessions k1)]) Try.underlying41 ty145 zr145 rfl rfl (.cons (by simp) (look_t rfl) (.nil))) rfl rfl rfl ?_
        obtain ⟨y2, hy2, h⟩ := bind_some h
        refine Sq.app (i := 4) Try.underlying41 ty145 zr145 (bytes := 32) (by kernel_rfl) (look_t rfl) rfl (look_t rfl) hy2 rfl fun key3 cap2 => ?_
        refine Sq.v (r_fa fd44_0 (look_t rfl)) rfl rfl rfl ?_
        refine Sq.storeH (i := 3) (γ := T_ref20_Session) (b' := (({ s1.2.1 with f_Sessions := [] } : T_ref20_State) : T_ref20_State)) (os' := [(1, slv key2 y1.length cap1), (0, slv key3 y2.length cap2)]) ((Lens.id T_ref20_State).comp le_T_ref20_State_Sessions) ty41 (look_t rfl) (look_t rfl) slv_one rfl rfl rfl rfl ?_
        refine Sq.nil ?_
        replace h := some_in h
        subst h
        exact To.meet 0 rfl (.same rfl (.same rfl (.same rfl (.same rfl (.same rfl (.same rfl (.same rfl (.same rfl (.same rfl (.same rfl (.same rfl .nil))))))))))) (hm (key3, cap2))
      · have h := cond_f hc hm1
        refine Wp.skip ?_
        replace h := some_in h
        subst h
        exact To.meet 0 rfl (.same rfl (.same rfl (.same rfl (.same rfl (.same rfl (.same rfl (.same rfl (.same rfl (.same rfl (.same rfl (.same rfl .nil))))))))))) (hm (g1.1, g1.2))
    · replace h := cond_f hc h
      refine Wp.exit ?_
      refine To.exit ?_
      replace h := some_in h
      subst h
      exact To.leaveG (g1.1, g1.2) 0 rfl (by simp) rfl (.same rfl (.same rfl (.same rfl (.same rfl (.same rfl (.same rfl (.same rfl (.same rfl (.same rfl .nil)))))))))
  · clear hl
    refine To.bexit ?_
    refine To.next ?_
    refine Wp.seq ?_
    refine Wp.reg ?_
    refine Sq.thaw (β := T_ref20_State) (γ := T_ref20_Session) (b' := (({ e1.2.2.1 with f_Sessions := e1.2.2.2 } : T_ref20_State) : T_ref20_State)) ((Lens.id T_ref20_State).comp le_T_ref20_State_Sessions) 2 3 1 rfl rfl rfl rfl rfl rfl ?_
    refine Sq.clr (γ := T_ref20_Top) (b' := (({ ({ e1.2.2.1 with f_Sessions := e1.2.2.2 } : T_ref20_State) with f_Tops := [] } : T_ref20_State) : T_ref20_State)) ((Lens.id T_ref20_State).comp le_T_ref20_State_Tops) 2 0 rfl rfl rfl ?_
    refine Sq.v (r_loadW (i := 2) ty44 rfl (look_t rfl) rfl) rfl rfl rfl ?_
    refine Sq.storeW (i := 6) ty44 (look_t rfl) (look_t rfl) rfl ?_
    refine Sq.nil ?_
    refine To.next ?_
    refine Wp.ret ?_
    refine To.bring 4 rfl ?_
    replace h := some_in h
    subst h
    exact To.endO1 (key2, cap1) (.cons_cons _ (List.nil_sublist _)) rfl rfl (rvo_cX (i := 6) ty44 rfl rfl rfl)
set_option maxHeartbeats 2000000 in
theorem Cop0_ref20_raise {x0 : List T_ref20_Top} {x1 : Int} {x2 : T_api_Value} {key00 : Option Nat} {cap00 : Nat} {r : (List T_ref20_Top)} (h : Lp0_ref20_raise x0 x1 x2 = some r) : MeetsO Try.prog 75 [VP.eq (slv key00 x0.length cap00), VP.of (x1), VP.of (x2)] [⟨key00, .row 159 (x0 : List T_ref20_Top) cap00⟩] (δ := (Option Nat × Nat)) (fun d => VP.eq (slv d.1 (r).length d.2)) (fun d => [⟨d.1, .row 159 (r : List T_ref20_Top) d.2⟩]) := by
  unfold Lp0_ref20_raise at h
  refine MeetsO.of Try.func75 rfl Try.ntmps75 rfl fun W A => ?_
  refine Wp.seq ?_
  refine Wp.reg ?_
  refine Sq.box (z := (x2 : T_api_Value)) (look_t rfl) rfl fun p1 => ?_
  refine Sq.own (α := T_ref20_Top) 159 ?_
  refine Sq.v (r_asg look_own) rfl rfl rfl ?_
  refine Sq.nil ?_
  refine To.next ?_
  refine Wp.seq ?_
  refine Wp.reg ?_
  refine Sq.v (r_asg (look_int 0)) rfl rfl rfl ?_
  refine Sq.nil ?_
  refine To.next ?_
  refine Wp.seq ?_
  refine Wp.block ?_
  obtain ⟨e1, hl, h⟩ := bind_some h
  refine Wp.loopG (σ := Int) (ε := (Int × Bool)) (γ := Unit) (δ := Unit) hl (fun s1 g1 => [(0, VP.eq (slv key00 x0.length cap00)), (1, VP.of (x1)), (2, VP.of (x2)), (5, VP.eq (.pointer (some ⟨p1, 0, none⟩))), (6, VP.eq (slv none ([] : List T_ref20_Top).length 0)), (7, VP.of (s1))]) (fun s1 g1 => [⟨none, .row 159 (([] : List T_ref20_Top) : List T_ref20_Top) 0⟩, ⟨some p1, .var (x2 : T_api_Value)⟩, ⟨key00, .row 159 (x0 : List T_ref20_Top) cap00⟩]) (fun q1 => Exit.exit 0) (fun q1 g1 => [(0, VP.eq (slv key00 x0.length cap00)), (1, VP.of (x1)), (2, VP.of (x2)), (5, VP.eq (.pointer (some ⟨p1, 0, none⟩))), (6, VP.eq (slv none ([] : List T_ref20_Top).length 0)), (7, VP.of (q1.1)), (20, VP.of (q1.2))]) (fun q1 g1 => [⟨none, .row 159 (([] : List T_ref20_Top) : List T_ref20_Top) 0⟩, ⟨some p1, .var (x2 : T_api_Value)⟩, ⟨key00, .row 159 (x0 : List T_ref20_Top) cap00⟩]) () rfl (.same rfl (.same rfl (.same rfl (.same rfl (.same rfl (.same rfl .nil)))))) (fun s1 r h g1 => ?_) (fun g1 => ?_)
  · clear hl
    refine Wp.seq ?_
    refine Wp.seq ?_
    refine Wp.reg ?_
    refine Sq.v (r_move (look_t rfl)) rfl rfl rfl ?_
    refine Sq.v (r_move (look_t rfl)) rfl rfl rfl ?_
    refine Sq.v (r_lenO (i := 2) Try.underlying42 (look_t rfl) rfl rfl) rfl rfl rfl ?_
    refine Sq.v (r_lss (look_t rfl) (look_t rfl)) rfl rfl rfl ?_
    refine Sq.v (r_move (look_t rfl)) rfl rfl rfl ?_
    refine Sq.g (fun hb => r_move (look_t rfl)) rfl rfl rfl rfl rfl ?_
    refine Sq.g (fun hb => r_move (look_t rfl)) rfl rfl rfl rfl rfl ?_
    obtain ⟨k1, hk1, h⟩ := bind_some h
    refine Sq.g (fun hb => r_iaO (i := 2) (k := k1) (xs := (x0 : List T_ref20_Top)) Try.underlying42 ty159 (look_tc rfl hb) (look_tc rfl hb) rfl (idx_some (condM_some hk1 hb))) rfl rfl rfl rfl rfl ?_
    refine Sq.g (fun hb => r_fa fd159_0 (look_tc rfl hb)) rfl rfl rfl rfl rfl ?_
    refine Sq.g (fun hb => r_loadR (i := 2) (k := k1) ((Lens.id T_ref20_Top).comp le_T_ref20_Top_Role) (r := (lget x0 k1).f_Role) ty3 (look_tc rfl hb) rfl (idx_some (condM_some hk1 hb)).1 rfl rfl) rfl rfl rfl rfl rfl ?_
    refine Sq.g (fun hb => r_move (look_t rfl)) rfl rfl rfl rfl rfl ?_
    refine Sq.g (fun hb => r_lss (look_tc rfl hb) (look_tc rfl hb)) rfl rfl rfl rfl rfl ?_
    obtain ⟨z1, hz1, h⟩ := bind_some h
    refine Sq.v ((r_and (look_t rfl) (look_t rfl) (fun h => h)).as (some_in hz1)) rfl rfl rfl ?_
    refine Sq.nil ?_
    refine To.next ?_
    refine Wp.cond (look_t rfl) (fun hc => ?_) (fun hc => ?_)
    · replace h := cond_t hc h
      refine Wp.skip ?_
      refine To.next ?_
      refine Wp.block ?_
      refine Wp.reg ?_
      refine Sq.v (r_move (look_t rfl)) rfl rfl rfl ?_
      refine Sq.v (r_add (look_t rfl) (look_int 1)) rfl rfl rfl ?_
      refine Sq.v (r_asg (look_t rfl)) rfl rfl rfl ?_
      refine Sq.nil ?_
      refine To.bnorm ?_
      replace h := some_in h
      subst h
      exact To.roundG () 0 rfl (.same rfl (.same rfl (.same rfl (.same rfl (.same rfl (.same rfl .nil))))))
    · replace h := cond_f hc h
      refine Wp.exit ?_
      refine To.exit ?_
      replace h := some_in h
      subst h
      exact To.leaveG () 0 rfl (by simp) rfl (.same rfl (.same rfl (.same rfl (.same rfl (.same rfl (.same rfl (.same rfl .nil)))))))
  · clear hl
    refine To.bexit ?_
    refine To.next ?_
    refine Wp.seq ?_
    refine Wp.seq ?_
    refine Wp.reg ?_
    refine Sq.v (r_move (look_t rfl)) rfl rfl rfl ?_
    refine Sq.v (r_move (look_t rfl)) rfl rfl rfl ?_
    refine Sq.v (r_lenO (i := 2) Try.underlying42 (look_t rfl) rfl rfl) rfl rfl rfl ?_
    refine Sq.v (r_lss (look_t rfl) (look_t rfl)) rfl rfl rfl ?_
    refine Sq.v (r_move (look_t rfl)) rfl rfl rfl ?_
    refine Sq.g (fun hb => r_move (look_t rfl)) rfl rfl rfl rfl rfl ?_
    refine Sq.g (fun hb => r_move (look_t rfl)) rfl rfl rfl rfl rfl ?_
    obtain ⟨k2, hk2, h⟩ := bind_some h
    refine Sq.g (fun hb => r_iaO (i := 2) (k := k2) (xs := (x0 : List T_ref20_Top)) Try.underlying42 ty159 (look_tc rfl hb) (look_tc rfl hb) rfl (idx_some (condM_some hk2 hb))) rfl rfl rfl rfl rfl ?_
    refine Sq.g (fun hb => r_fa fd159_0 (look_tc rfl hb)) rfl rfl rfl rfl rfl ?_
    refine Sq.g (fun hb => r_loadR (i := 2) (k := k2) ((Lens.id T_ref20_Top).comp le_T_ref20_Top_Role) (r := (lget x0 k2).f_Role) ty3 (look_tc rfl hb) rfl (idx_some (condM_some hk2 hb)).1 rfl rfl) rfl rfl rfl rfl rfl ?_
    refine Sq.g (fun hb => r_move (look_t rfl)) rfl rfl rfl rfl rfl ?_
    refine Sq.g (fun hb => r_eql (look_tc rfl hb) (look_tc rfl hb)) rfl rfl rfl rfl rfl ?_
    refine Sq.v (r_and (look_t rfl) (look_t rfl) (fun h => h)) rfl rfl rfl ?_
    refine Sq.nil ?_
    refine To.next ?_
    refine Wp.cond (look_t rfl) (fun hc => ?_) (fun hc => ?_)
    · replace h := cond_t hc h
      refine Wp.seq ?_
      refine Wp.reg ?_
      refine Sq.v (r_move (look_t rfl)) rfl rfl rfl ?_
      refine Sq.v (r_move (look_t rfl)) rfl rfl rfl ?_
      refine Sq.v (r_load (i := 1) (Lens.id T_api_Value) (r := x2) ty47 (look_t rfl) rfl rfl rfl) rfl rfl rfl ?_
      obtain ⟨k3, hk3, h⟩ := bind_some h
      refine Sq.v (r_iaO (i := 2) (k := k3) (xs := (x0 : List T_ref20_Top)) Try.underlying42 ty159 (look_t rfl) (look_t rfl) rfl (idx_some hk3)) rfl rfl rfl ?_
      refine Sq.v (r_fa fd159_1 (look_t rfl)) rfl rfl rfl ?_
      refine Sq.storeR (i := 2) (k := k3) ((Lens.id T_ref20_Top).comp le_T_ref20_Top_Election) (v := (x2 : T_api_Value)) (r := (lset x0 k3 ({ (lget x0 k3) with f_Election := x2 } : T_ref20_Top) : List T_ref20_Top)) ty47 (look_t rfl) (look_t rfl) rfl (idx_some hk3).1 rfl rfl ?_
      refine Sq.relen (m := (lset x0 k3 ({ (lget x0 k3) with f_Election := x2 } : T_ref20_Top)).length) 0 rfl (lset_len rfl) ?_
      refine Sq.relen (m := (lset x0 k3 ({ (lget x0 k3) with f_Election := x2 } : T_ref20_Top)).length) 24 rfl (lset_len rfl) ?_
      refine Sq.relen (m := (lset x0 k3 ({ (lget x0 k3) with f_Election := x2 } : T_ref20_Top)).length) 36 rfl (lset_len rfl) ?_
      refine Sq.nil ?_
      refine To.next ?_
      refine Wp.seq ?_
      refine Wp.reg ?_
      refine Sq.v (r_move (look_t rfl)) rfl rfl rfl ?_
      refine Sq.v (r_asg (look_t rfl)) rfl rfl rfl ?_
      refine Sq.nil ?_
      refine To.next ?_
      refine Wp.ret ?_
      refine To.ret ?_
      refine To.bring 2 rfl ?_
      replace h := some_in h
      subst h
      exact To.endO1 (key00, cap00) (.cons_cons _ (List.nil_sublist _)) rfl rfl (rvo_t rfl)
    · replace h := cond_f hc h
      refine Wp.skip ?_
      refine To.next ?_
      refine Wp.seq ?_
      refine Wp.freezeL (α := T_ref20_Top) 2 [0, 24] ⟨rfl, rfl, trivial⟩ rfl ?_
      obtain ⟨y1, hy1, h⟩ := bind_some h
      obtain ⟨y2, hy2, h⟩ := bind_some h
      obtain ⟨y3, hy3, h⟩ := bind_some h
      obtain ⟨y4, hy4, h⟩ := bind_some h
      obtain ⟨y5, hy5, h⟩ := bind_some h
      refine Wp.keep 1 ?_
      refine Wp.le (E' := [(0, VP.of (x0)), (1, VP.of (x1)), (2, VP.of (x2)), (5, VP.eq (.pointer (some ⟨p1, 0, none⟩))), (7, VP.of (e1.1)), (20, VP.of (e1.2)), (23, VP.of (e1.1)), (24, VP.of (x0)), (25, VP.of (x0.length : Int)), (26, VP.of (decide (e1.1 < (x0.length : Int)))), (27, VP.of (decide (e1.1 < (x0.length : Int)))), (28, VP.cond ((decide (e1.1 < (x0.length : Int))) = true) (VP.eq (slv key00 x0.length cap00))), (29, VP.cond ((decide (e1.1 < (x0.length : Int))) = true) (VP.of (e1.1))), (32, VP.cond ((decide (e1.1 < (x0.length : Int))) = true) (VP.of ((lget x0 k2).f_Role))), (33, VP.cond ((decide (e1.1 < (x0.length : Int))) = true) (VP.of (x1))), (34, VP.cond ((decide (e1.1 < (x0.length : Int))) = true) (VP.of (((lget x0 k2).f_Role) == x1))), (35, VP.of ((decide (e1.1 < (x0.length : Int))) && (((lget x0 k2).f_Role) == x1)))]) (.same rfl (.same rfl (.same rfl (.same rfl (.same rfl (.same rfl (.same rfl (.same rfl (.same rfl (.same rfl (.same rfl (.same rfl (.same rfl (.same rfl (.same rfl (.same rfl (.same rfl .nil))))))))))))))))) ?_
      refine Wp.drawD mixed (⟨some 42, [], (3 :: []), (3 :: []), fun hd => VP.eq (slv (hd 0 0) ([] : List T_ref20_Top).length 0), fun hd _ => ⟨(hd 0 0), .row 159 (([] : List T_ref20_Top) : List T_ref20_Top) 0⟩⟩ :: ⟨some 43, [], [], [], fun _ => VP.of (x0), fun _ _ => ⟨none, .dead⟩⟩ :: ⟨some 44, [], [], [], fun _ => VP.of (e1.1), fun _ _ => ⟨none, .dead⟩⟩ :: ⟨some 45, (1 :: 2 :: []), [], [], fun _ => VP.of (y1), fun _ _ => ⟨none, .dead⟩⟩ :: ⟨some 46, (0 :: 3 :: []), (3 :: []), (3 :: []), fun hd => VP.eq (slv (hd 4 0) y2.length ((hd 4 1).getD 0)), fun hd _ => ⟨(hd 4 0), .row 159 (y2 : List T_ref20_Top) ((hd 4 1).getD 0)⟩⟩ :: ⟨some 47, [], [], [], fun _ => VP.of (x1), fun _ _ => ⟨none, .dead⟩⟩ :: ⟨some 48, [], (1 :: []), [], fun _ => VP.of (x2), fun _ _ => ⟨none, .dead⟩⟩ :: ⟨some 49, (5 :: 6 :: []), [], [], fun _ => VP.of ({ f_Role := x1, f_Election := x2 : T_ref20_Top }), fun _ _ => ⟨none, .dead⟩⟩ :: ⟨some 50, (7 :: []), [], [], fun _ => VP.of ([{ f_Role := x1, f_Election := x2 : T_ref20_Top }]), fun _ _ => ⟨none, .dead⟩⟩ :: ⟨some 51, (0 :: 4 :: 8 :: []), (3 :: []), (3 :: []), fun hd => VP.eq (slv (hd 9 0) y3.length ((hd 9 1).getD 0)), fun hd _ => ⟨(hd 9 0), .row 159 (y3 : List T_ref20_Top) ((hd 9 1).getD 0)⟩⟩ :: ⟨some 52, [], [], [], fun _ => VP.of (x0), fun _ _ => ⟨none, .dead⟩⟩ :: ⟨some 53, [], [], [], fun _ => VP.of (e1.1), fun _ _ => ⟨none, .dead⟩⟩ :: ⟨some 54, (10 :: 11 :: []), [], [], fun _ => VP.of (y4), fun _ _ => ⟨none, .dead⟩⟩ :: ⟨some 55, (0 :: 4 :: 9 :: 12 :: []), (3 :: []), (3 :: []), fun hd => VP.eq (slv (hd 13 0) y5.length ((hd 13 1).getD 0)), fun hd _ => ⟨(hd 13 0), .row 159 (y5 : List T_ref20_Top) ((hd 13 1).getD 0)⟩⟩ :: ⟨some 6, (13 :: []), [], [], fun hd => VP.eq (slv (hd 13 0) y5.length ((hd 13 1).getD 0)), fun _ _ => ⟨none, .dead⟩⟩ :: []) ((some 42, [], (3 :: []), (3 :: [])) :: (some 43, [], [], []) :: (some 44, [], [], []) :: (some 45, (1 :: 2 :: []), [], []) :: (some 46, (0 :: 3 :: []), (3 :: []), (3 :: [])) :: (some 47, [], [], []) :: (some 48, [], (1 :: []), []) :: (some 49, (5 :: 6 :: []), [], []) :: (some 50, (7 :: []), [], []) :: (some 51, (0 :: 4 :: 8 :: []), (3 :: []), (3 :: [])) :: (some 52, [], [], []) :: (some 53, [], [], []) :: (some 54, (10 :: 11 :: []), [], []) :: (some 55, (0 :: 4 :: 9 :: 12 :: []), (3 :: []), (3 :: [])) :: (some 6, (13 :: []), [], []) :: []) (0 :: 1 :: 2 :: 5 :: 7 :: 20 :: 23 :: 24 :: 25 :: 26 :: 27 :: 28 :: 29 :: 32 :: 33 :: 34 :: 35 :: []) rfl rfl (by kernel_rfl) ⟨?_, ?_, ?_, ?_, ?_, ?_, ?_, ?_, ?_, ?_, ?_, ?_, ?_, ?_, ?_, trivial⟩ fun hd => ?_
      · intro hd E' L' hE hL
        refine Sq.bslO (α := T_ref20_Top) (r := ([] : List T_ref20_Top)) Try.underlying42 ty159 zr159 rfl rfl (.nil) rfl fun key1 => ?_
        refine Sq.nil ?_
        refine To.place 3 (hL 3 _ rfl rfl) ?_
        exact To.fin (gm [key1]) rfl rfl
      · exact hd_v rfl rfl rfl fun hd E' L' hE hL => r_move (look_t (hE _ _ rfl))
      · exact hd_v rfl rfl rfl fun hd E' L' hE hL => r_move (look_t (hE _ _ rfl))
      · exact hd_v rfl rfl rfl fun hd E' L' hE hL => r_slice Try.underlying42 ty159 (look_t (hE _ _ rfl)) .none (.some (look_t (hE _ _ rfl))) hy1
      · intro hd E' L' hE hL
        refine Sq.app (i := 3) Try.underlying42 ty159 zr159 (bytes := 24) (by kernel_rfl) (look_t (hE _ _ rfl)) (hL 3 _ rfl rfl) (look_t (hE _ _ rfl)) hy2 rfl fun key2 cap1 => ?_
        refine Sq.nil ?_
        exact To.fin (gm [key2, some cap1]) rfl rfl
      · exact hd_v rfl rfl rfl fun hd E' L' hE hL => r_move (look_t (hE _ _ rfl))
      · exact hd_v rfl rfl rfl fun hd E' L' hE hL => r_load (i := 1) (Lens.id T_api_Value) (r := x2) ty47 (look_t (hE _ _ rfl)) (hL 1 _ rfl rfl) rfl rfl
      · exact hd_v rfl rfl rfl fun hd E' L' hE hL => r_build (b := { f_Role := x1, f_Election := x2 : T_ref20_Top }) rfl bu159 zr159 (.cons le_T_ref20_Top_Role rfl (look_t (hE _ _ rfl)) rfl (.cons le_T_ref20_Top_Election rfl (look_t (hE _ _ rfl)) rfl (.nil)))
      · exact hd_v rfl rfl rfl fun hd E' L' hE hL => r_bsl (r := [{ f_Role := x1, f_Election := x2 : T_ref20_Top }]) Try.underlying42 ty159 zr159 rfl rfl (.cons (by simp) (look_t (hE _ _ rfl)) (.nil))
      · intro hd E' L' hE hL
        refine Sq.app (i := 3) Try.underlying42 ty159 zr159 (bytes := 24) (by kernel_rfl) (look_t (hE _ _ rfl)) (hL 3 _ rfl rfl) (look_t (hE _ _ rfl)) hy3 rfl fun key3 cap2 => ?_
        refine Sq.nil ?_
        exact To.fin (gm [key3, some cap2]) rfl rfl
      · exact hd_v rfl rfl rfl fun hd E' L' hE hL => r_move (look_t (hE _ _ rfl))
      · exact hd_v rfl rfl rfl fun hd E' L' hE hL => r_move (look_t (hE _ _ rfl))
      · exact hd_v rfl rfl rfl fun hd E' L' hE hL => r_slice Try.underlying42 ty159 (look_t (hE _ _ rfl)) (.some (look_t (hE _ _ rfl))) .none hy4
      · intro hd E' L' hE hL
        refine Sq.app (i := 3) Try.underlying42 ty159 zr159 (bytes := 24) (by kernel_rfl) (look_t (hE _ _ rfl)) (hL 3 _ rfl rfl) (look_t (hE _ _ rfl)) hy5 rfl fun key4 cap3 => ?_
        refine Sq.nil ?_
        exact To.fin (gm [key4, some cap3]) rfl rfl
      · intro hd E' L' hE hL
        refine Sq.v (r_asg (look_t (hE _ _ rfl))) rfl rfl rfl ?_
        refine Sq.nil ?_
        exact To.fin (gm []) rfl rfl
      refine To.eqL (L2 := [⟨none, .row 159 (([] : List T_ref20_Top) : List T_ref20_Top) 0⟩, ⟨some p1, .var (x2 : T_api_Value)⟩, ⟨none, .dead⟩, ⟨(hd 13 0), .row 159 (y5 : List T_ref20_Top) ((hd 13 1).getD 0)⟩]) rfl ?_
      refine To.le (E' := [(0, VP.of (x0)), (1, VP.of (x1)), (2, VP.of (x2)), (5, VP.eq (.pointer (some ⟨p1, 0, none⟩))), (6, VP.eq (slv (hd 13 0) y5.length ((hd 13 1).getD 0))), (7, VP.of (e1.1)), (20, VP.of (e1.2)), (23, VP.of (e1.1)), (24, VP.of (x0)), (25, VP.of (x0.length : Int)), (26, VP.of (decide (e1.1 < (x0.length : Int)))), (27, VP.of (decide (e1.1 < (x0.length : Int)))), (28, VP.cond ((decide (e1.1 < (x0.length : Int))) = true) (VP.eq (slv key00 x0.length cap00))), (29, VP.cond ((decide (e1.1 < (x0.length : Int))) = true) (VP.of (e1.1))), (32, VP.cond ((decide (e1.1 < (x0.length : Int))) = true) (VP.of ((lget x0 k2).f_Role))), (33, VP.cond ((decide (e1.1 < (x0.length : Int))) = true) (VP.of (x1))), (34, VP.cond ((decide (e1.1 < (x0.length : Int))) = true) (VP.of (((lget x0 k2).f_Role) == x1))), (35, VP.of ((decide (e1.1 < (x0.length : Int))) && (((lget x0 k2).f_Role) == x1))), (43, VP.of (x0)), (44, VP.of (e1.1)), (45, VP.of (y1)), (47, VP.of (x1)), (48, VP.of (x2)), (49, VP.of ({ f_Role := x1, f_Election := x2 : T_ref20_Top })), (50, VP.of ([{ f_Role := x1, f_Election := x2 : T_ref20_Top }])), (52, VP.of (x0)), (53, VP.of (e1.1)), (54, VP.of (y4)), (55, VP.eq (slv (hd 13 0) y5.length ((hd 13 1).getD 0)))]) (.same rfl (.same rfl (.same rfl (.same rfl (.same rfl (.same rfl (.same rfl (.same rfl (.same rfl (.same rfl (.same rfl (.same rfl (.same rfl (.same rfl (.same rfl (.same rfl (.same rfl (.same rfl (.same rfl (.same rfl (.same rfl (.same rfl (.same rfl (.same rfl (.same rfl (.same rfl (.same rfl (.same rfl (.same rfl .nil))))))))))))))))))))))))))))) ?_
      refine To.bring 3 rfl ?_
      refine To.next ?_
      refine Wp.ret ?_
      refine To.bring 0 rfl ?_
      replace h := some_in h
      subst h
      exact To.endO1 ((hd 13 0), ((hd 13 1).getD 0)) (.cons_cons _ (List.nil_sublist _)) rfl rfl (rvo_t rfl)
end Go.Proofs.Ytodajdohokmjnaa
