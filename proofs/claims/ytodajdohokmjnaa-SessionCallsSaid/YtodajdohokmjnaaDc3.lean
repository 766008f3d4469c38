/-
  Printed by the decompiler (dec.py) out of the seat's translation. Each function meets its functional program. Conditions: none.
-/
import Derived.Test.YtodajdohokmjnaaDl
namespace Go.Proofs.Ytodajdohokmjnaa
open Go Gv
set_option linter.unusedVariables false
set_option linter.unusedSimpArgs false
set_option maxRecDepth 100000
set_option maxHeartbeats 2000000 in
theorem C_ref04_ids {x0 : T_api_Schema}  {r : (Vector (List Int) 6)} (h : L_ref04_ids x0 = some r) : Meets Try.prog 110 [VP.of (x0)] (VP.of (r)) := by
  unfold L_ref04_ids at h
  refine Meets.of Try.func110 rfl Try.ntmps110 rfl fun W A => ?_
  refine Wp.seq ?_
  refine Wp.reg ?_
  refine Sq.box (z := (x0 : T_api_Schema)) (look_t rfl) rfl fun p1 => ?_
  refine Sq.alloc zr219 rfl fun p2 => ?_
  refine Sq.nil ?_
  refine To.next ?_
  refine Wp.seq ?_
  refine Wp.reg ?_
  refine Sq.allocX (z := (default : Vector (List Int) 6)) [0, 1, 2, 3, 4, 5] zh219_0_1_2_3_4_5 zr219 rfl fun p3 => ?_
  refine Sq.own (α := Int) 3 ?_
  refine Sq.own (α := Int) 3 ?_
  refine Sq.own (α := Int) 3 ?_
  refine Sq.own (α := Int) 3 ?_
  refine Sq.own (α := Int) 3 ?_
  refine Sq.own (α := Int) 3 ?_
  refine Sq.nil ?_
  refine To.next ?_
  refine Wp.seq ?_
  refine Wp.seq ?_
  refine Wp.reg ?_
  refine Sq.v (r_fa fd33_0 (look_t rfl)) rfl rfl rfl ?_
  refine Sq.v (r_load (i := 8) ((Lens.id T_api_Schema).comp le_T_api_Schema_Fields) (r := x0.f_Fields) ty24 (look_t rfl) rfl rfl rfl) rfl rfl rfl ?_
  refine Sq.v (r_len Try.underlying24 (look_t rfl)) rfl rfl rfl ?_
  refine Sq.v (r_move (look_int 0)) rfl rfl rfl ?_
  refine Sq.nil ?_
  refine To.next ?_
  refine Wp.block ?_
  obtain ⟨e1, hl, h⟩ := bind_some h
  refine Wp.loopG (σ := Int × (List Int) × (Vector (List Int) 6)) (ε := (Int × Bool × (List Int) × (Vector (List Int) 6))) (γ := (Option Nat × Nat)) (δ := (Option Nat × Nat)) hl (fun s1 g1 => [(0, VP.of (x0)), (1, VP.eq (.pointer (some ⟨p1, 0, none⟩))), (2, VP.eq (.pointer (some ⟨p2, 0, none⟩))), (3, VP.eq (.pointer (some ⟨p3, 0, none⟩))), (17, VP.of (x0.f_Fields)), (18, VP.of (x0.f_Fields.length : Int)), (19, VP.of (s1.1))]) (fun s1 g1 => [⟨none, .row 3 (([] : List Int) : List Int) 0⟩, ⟨none, .row 3 (([] : List Int) : List Int) 0⟩, ⟨none, .row 3 (([] : List Int) : List Int) 0⟩, ⟨none, .row 3 (([] : List Int) : List Int) 0⟩, ⟨none, .row 3 (([] : List Int) : List Int) 0⟩, ⟨g1.1, .row 3 (s1.2.1 : List Int) g1.2⟩, ⟨some p3, .varX (s1.2.2 : Vector (List Int) 6) [(0, slv g1.1 s1.2.1.length g1.2), (1, slv none ([] : List Int).length 0), (2, slv none ([] : List Int).length 0), (3, slv none ([] : List Int).length 0), (4, slv none ([] : List Int).length 0), (5, slv none ([] : List Int).length 0)]⟩, ⟨some p2, .var ((default : Vector (List Int) 6) : Vector (List Int) 6)⟩, ⟨some p1, .var (x0 : T_api_Schema)⟩]) (fun q1 => Exit.exit 0) (fun q1 g1 => [(0, VP.of (x0)), (1, VP.eq (.pointer (some ⟨p1, 0, none⟩))), (2, VP.eq (.pointer (some ⟨p2, 0, none⟩))), (3, VP.eq (.pointer (some ⟨p3, 0, none⟩))), (17, VP.of (x0.f_Fields)), (18, VP.of (x0.f_Fields.length : Int)), (19, VP.of (q1.1)), (20, VP.of (q1.2.1))]) (fun q1 g1 => [⟨none, .row 3 (([] : List Int) : List Int) 0⟩, ⟨none, .row 3 (([] : List Int) : List Int) 0⟩, ⟨none, .row 3 (([] : List Int) : List Int) 0⟩, ⟨none, .row 3 (([] : List Int) : List Int) 0⟩, ⟨none, .row 3 (([] : List Int) : List Int) 0⟩, ⟨g1.1, .row 3 (q1.2.2.1 : List Int) g1.2⟩, ⟨some p3, .varX (q1.2.2.2 : Vector (List Int) 6) [(0, slv g1.1 q1.2.2.1.length g1.2), (1, slv none ([] : List Int).length 0), (2, slv none ([] : List Int).length 0), (3, slv none ([] : List Int).length 0), (4, slv none ([] : List Int).length 0), (5, slv none ([] : List Int).length 0)]⟩, ⟨some p2, .var ((default : Vector (List Int) 6) : Vector (List Int) 6)⟩, ⟨some p1, .var (x0 : T_api_Schema)⟩]) (none, 0) rfl (.same rfl (.same rfl (.same rfl (.same rfl (.same rfl (.same rfl (.same rfl .nil))))))) (fun s1 r h g1 => ?_) (fun g1 => ?_)
  · clear hl
    refine Wp.seq ?_
    refine Wp.reg ?_
    refine Sq.v (r_lss (look_t rfl) (look_t rfl)) rfl rfl rfl ?_
    refine Sq.nil ?_
    refine To.next ?_
    refine Wp.seq ?_
    refine Wp.cond (look_t rfl) (fun hc => ?_) (fun hc => ?_)
    · replace h := cond_t hc h
      refine Wp.skip ?_
      refine To.next ?_
      refine Wp.seq ?_
      refine Wp.block ?_
      refine Wp.seq ?_
      refine Wp.reg ?_
      obtain ⟨k1, hk1, h⟩ := bind_some h
      refine Sq.v (r_ias (k := k1) Try.underlying24 ty123 (look_t rfl) (look_t rfl) (idx_some hk1)) rfl rfl rfl ?_
      refine Sq.v (r_loadp ty123 (look_t rfl)) rfl rfl rfl ?_
      refine Sq.alloc zr123 rfl fun p4 => ?_
      refine Sq.store (i := 0) (Lens.id T_api_Field) (v := (lget x0.f_Fields k1 : T_api_Field)) (b' := (lget x0.f_Fields k1 : T_api_Field)) ty123 (look_t rfl) (look_t rfl) rfl rfl rfl ?_
      refine Sq.nil ?_
      refine To.next ?_
      refine Wp.reg ?_
      refine Sq.v (r_ia (k := 0) ar219 (look_t rfl) (look_int 0) ⟨by decide, rfl⟩) rfl rfl rfl ?_
      refine Sq.v (r_loadH (i := 7) (q := 0) (β := Vector (List Int) 6) (γ := Int) ty64 (look_t rfl) rfl rfl) rfl rfl rfl ?_
      refine Sq.v (r_fa fd123_0 (look_t rfl)) rfl rfl rfl ?_
      refine Sq.v (r_load (i := 0) ((Lens.id T_api_Field).comp le_T_api_Field_ID) (r := (lget x0.f_Fields k1).f_ID) ty3 (look_t rfl) rfl rfl rfl) rfl rfl rfl ?_
      refine Sq.v (r_bsl (r := [(lget x0.f_Fields k1).f_ID]) Try.underlying64 ty3 zr3 rfl rfl (.cons (by simp) (look_t rfl) (.nil))) rfl rfl rfl ?_
      obtain ⟨y1, hy1, h⟩ := bind_some h
      refine Sq.app (i := 6) Try.underlying64 ty3 zr3 (bytes := 8) (by kernel_rfl) (look_t rfl) rfl (look_t rfl) hy1 rfl fun key1 cap1 => ?_
      refine Sq.v (r_ia (k := 0) ar219 (look_t rfl) (look_int 0) ⟨by decide, rfl⟩) rfl rfl rfl ?_
      refine Sq.storeH (i := 7) (γ := Int) (b' := (vset s1.2.2 0 [] : Vector (List Int) 6)) (os' := [(0, slv key1 y1.length cap1), (1, slv none ([] : List Int).length 0), (2, slv none ([] : List Int).length 0), (3, slv none ([] : List Int).length 0), (4, slv none ([] : List Int).length 0), (5, slv none ([] : List Int).length 0)]) ((Lens.id (Vector (List Int) 6)).comp (Lens.idx (α := List Int) 6 0 (by decide))) ty64 (look_t rfl) (look_t rfl) slv_one rfl rfl rfl rfl ?_
      refine Sq.nil ?_
      refine To.bnorm ?_
      refine To.next ?_
      refine Wp.reg ?_
      refine Sq.v (r_add (look_t rfl) (look_int 1)) rfl rfl rfl ?_
      refine Sq.v (r_move (look_t rfl)) rfl rfl rfl ?_
      refine Sq.nil ?_
      replace h := some_in h
      subst h
      exact To.roundG (key1, cap1) 1 rfl (.same rfl (.same rfl (.same rfl (.same rfl (.same rfl (.same rfl (.same rfl .nil)))))))
    · replace h := cond_f hc h
      refine Wp.exit ?_
      refine To.exit ?_
      replace h := some_in h
      subst h
      exact To.leaveG (g1.1, g1.2) 0 rfl (by simp) rfl (.same rfl (.same rfl (.same rfl (.same rfl (.same rfl (.same rfl (.same rfl (.same rfl .nil))))))))
  · clear hl
    refine To.bexit ?_
    refine To.next ?_
    refine Wp.seq ?_
    refine Wp.seq ?_
    refine Wp.reg ?_
    refine Sq.v (r_fa fd33_1 (look_t rfl)) rfl rfl rfl ?_
    refine Sq.v (r_load (i := 8) ((Lens.id T_api_Schema).comp le_T_api_Schema_Headers) (r := x0.f_Headers) ty25 (look_t rfl) rfl rfl rfl) rfl rfl rfl ?_
    refine Sq.v (r_len Try.underlying25 (look_t rfl)) rfl rfl rfl ?_
    refine Sq.v (r_move (look_int 0)) rfl rfl rfl ?_
    refine Sq.nil ?_
    refine To.next ?_
    refine Wp.block ?_
    obtain ⟨e2, hl, h⟩ := bind_some h
    refine Wp.loopG (σ := Int × (List Int) × (Vector (List Int) 6)) (ε := (Int × Bool × (List Int) × (Vector (List Int) 6))) (γ := (Option Nat × Nat)) (δ := (Option Nat × Nat)) hl (fun s2 g2 => [(0, VP.of (x0)), (1, VP.eq (.pointer (some ⟨p1, 0, none⟩))), (2, VP.eq (.pointer (some ⟨p2, 0, none⟩))), (3, VP.eq (.pointer (some ⟨p3, 0, none⟩))), (17, VP.of (x0.f_Fields)), (18, VP.of (x0.f_Fields.length : Int)), (19, VP.of (e1.1)), (20, VP.of (e1.2.1)), (32, VP.of (x0.f_Headers)), (33, VP.of (x0.f_Headers.length : Int)), (34, VP.of (s2.1))]) (fun s2 g2 => [⟨none, .row 3 (([] : List Int) : List Int) 0⟩, ⟨none, .row 3 (([] : List Int) : List Int) 0⟩, ⟨none, .row 3 (([] : List Int) : List Int) 0⟩, ⟨none, .row 3 (([] : List Int) : List Int) 0⟩, ⟨g2.1, .row 3 (s2.2.1 : List Int) g2.2⟩, ⟨g1.1, .row 3 (e1.2.2.1 : List Int) g1.2⟩, ⟨some p3, .varX (s2.2.2 : Vector (List Int) 6) [(0, slv g1.1 e1.2.2.1.length g1.2), (1, slv g2.1 s2.2.1.length g2.2), (2, slv none ([] : List Int).length 0), (3, slv none ([] : List Int).length 0), (4, slv none ([] : List Int).length 0), (5, slv none ([] : List Int).length 0)]⟩, ⟨some p2, .var ((default : Vector (List Int) 6) : Vector (List Int) 6)⟩, ⟨some p1, .var (x0 : T_api_Schema)⟩]) (fun q2 => Exit.exit 2) (fun q2 g2 => [(0, VP.of (x0)), (1, VP.eq (.pointer (some ⟨p1, 0, none⟩))), (2, VP.eq (.pointer (some ⟨p2, 0, none⟩))), (3, VP.eq (.pointer (some ⟨p3, 0, none⟩))), (17, VP.of (x0.f_Fields)), (18, VP.of (x0.f_Fields.length : Int)), (19, VP.of (e1.1)), (20, VP.of (e1.2.1)), (32, VP.of (x0.f_Headers)), (33, VP.of (x0.f_Headers.length : Int)), (34, VP.of (q2.1)), (35, VP.of (q2.2.1))]) (fun q2 g2 => [⟨none, .row 3 (([] : List Int) : List Int) 0⟩, ⟨none, .row 3 (([] : List Int) : List Int) 0⟩, ⟨none, .row 3 (([] : List Int) : List Int) 0⟩, ⟨none, .row 3 (([] : List Int) : List Int) 0⟩, ⟨g2.1, .row 3 (q2.2.2.1 : List Int) g2.2⟩, ⟨g1.1, .row 3 (e1.2.2.1 : List Int) g1.2⟩, ⟨some p3, .varX (q2.2.2.2 : Vector (List Int) 6) [(0, slv g1.1 e1.2.2.1.length g1.2), (1, slv g2.1 q2.2.2.1.length g2.2), (2, slv none ([] : List Int).length 0), (3, slv none ([] : List Int).length 0), (4, slv none ([] : List Int).length 0), (5, slv none ([] : List Int).length 0)]⟩, ⟨some p2, .var ((default : Vector (List Int) 6) : Vector (List Int) 6)⟩, ⟨some p1, .var (x0 : T_api_Schema)⟩]) (none, 0) rfl (.same rfl (.same rfl (.same rfl (.same rfl (.same rfl (.same rfl (.same rfl (.same rfl (.same rfl (.same rfl (.same rfl .nil))))))))))) (fun s2 r h g2 => ?_) (fun g2 => ?_)
    · clear hl
      refine Wp.seq ?_
      refine Wp.reg ?_
      refine Sq.v (r_lss (look_t rfl) (look_t rfl)) rfl rfl rfl ?_
      refine Sq.nil ?_
      refine To.next ?_
      refine Wp.seq ?_
      refine Wp.cond (look_t rfl) (fun hc => ?_) (fun hc => ?_)
      · replace h := cond_t hc h
        refine Wp.skip ?_
        refine To.next ?_
        refine Wp.seq ?_
        refine Wp.block ?_
        refine Wp.seq ?_
        refine Wp.reg ?_
        obtain ⟨k2, hk2, h⟩ := bind_some h
        refine Sq.v (r_ias (k := k2) Try.underlying25 ty125 (look_t rfl) (look_t rfl) (idx_some hk2)) rfl rfl rfl ?_
        refine Sq.v (r_loadp ty125 (look_t rfl)) rfl rfl rfl ?_
        refine Sq.alloc zr125 rfl fun p5 => ?_
        refine Sq.store (i := 0) (Lens.id T_api_Header) (v := (lget x0.f_Headers k2 : T_api_Header)) (b' := (lget x0.f_Headers k2 : T_api_Header)) ty125 (look_t rfl) (look_t rfl) rfl rfl rfl ?_
        refine Sq.nil ?_
        refine To.next ?_
        refine Wp.reg ?_
        refine Sq.v (r_ia (k := 1) ar219 (look_t rfl) (look_int 1) ⟨by decide, rfl⟩) rfl rfl rfl ?_
        refine Sq.v (r_loadH (i := 7) (q := 1) (β := Vector (List Int) 6) (γ := Int) ty64 (look_t rfl) rfl rfl) rfl rfl rfl ?_
        refine Sq.v (r_fa fd125_0 (look_t rfl)) rfl rfl rfl ?_
        refine Sq.v (r_load (i := 0) ((Lens.id T_api_Header).comp le_T_api_Header_ID) (r := (lget x0.f_Headers k2).f_ID) ty3 (look_t rfl) rfl rfl rfl) rfl rfl rfl ?_
        refine Sq.v (r_bsl (r := [(lget x0.f_Headers k2).f_ID]) Try.underlying64 ty3 zr3 rfl rfl (.cons (by simp) (look_t rfl) (.nil))) rfl rfl rfl ?_
        obtain ⟨y2, hy2, h⟩ := bind_some h
        refine Sq.app (i := 5) Try.underlying64 ty3 zr3 (bytes := 8) (by kernel_rfl) (look_t rfl) rfl (look_t rfl) hy2 rfl fun key2 cap2 => ?_
        refine Sq.v (r_ia (k := 1) ar219 (look_t rfl) (look_int 1) ⟨by decide, rfl⟩) rfl rfl rfl ?_
        refine Sq.storeH (i := 7) (γ := Int) (b' := (vset s2.2.2 1 [] : Vector (List Int) 6)) (os' := [(0, slv g1.1 e1.2.2.1.length g1.2), (1, slv key2 y2.length cap2), (2, slv none ([] : List Int).length 0), (3, slv none ([] : List Int).length 0), (4, slv none ([] : List Int).length 0), (5, slv none ([] : List Int).length 0)]) ((Lens.id (Vector (List Int) 6)).comp (Lens.idx (α := List Int) 6 1 (by decide))) ty64 (look_t rfl) (look_t rfl) slv_one rfl rfl rfl rfl ?_
        refine Sq.nil ?_
        refine To.bnorm ?_
        refine To.next ?_
        refine Wp.reg ?_
        refine Sq.v (r_add (look_t rfl) (look_int 1)) rfl rfl rfl ?_
        refine Sq.v (r_move (look_t rfl)) rfl rfl rfl ?_
        refine Sq.nil ?_
        replace h := some_in h
        subst h
        exact To.roundG (key2, cap2) 1 rfl (.same rfl (.same rfl (.same rfl (.same rfl (.same rfl (.same rfl (.same rfl (.same rfl (.same rfl (.same rfl (.same rfl .nil)))))))))))
      · replace h := cond_f hc h
        refine Wp.exit ?_
        refine To.exit ?_
        replace h := some_in h
        subst h
        exact To.leaveG (g2.1, g2.2) 0 rfl (by simp) rfl (.same rfl (.same rfl (.same rfl (.same rfl (.same rfl (.same rfl (.same rfl (.same rfl (.same rfl (.same rfl (.same rfl (.same rfl .nil))))))))))))
    · clear hl
      refine To.bexit ?_
      refine To.next ?_
      refine Wp.seq ?_
      refine Wp.seq ?_
      refine Wp.reg ?_
      refine Sq.v (r_fa fd33_2 (look_t rfl)) rfl rfl rfl ?_
      refine Sq.v (r_load (i := 8) ((Lens.id T_api_Schema).comp le_T_api_Schema_States) (r := x0.f_States) ty26 (look_t rfl) rfl rfl rfl) rfl rfl rfl ?_
      refine Sq.v (r_len Try.underlying26 (look_t rfl)) rfl rfl rfl ?_
      refine Sq.v (r_move (look_int 0)) rfl rfl rfl ?_
      refine Sq.nil ?_
      refine To.next ?_
      refine Wp.block ?_
      obtain ⟨e3, hl, h⟩ := bind_some h
      refine Wp.loopG (σ := Int × (List Int) × (Vector (List Int) 6)) (ε := (Int × Bool × (List Int) × (Vector (List Int) 6))) (γ := (Option Nat × Nat)) (δ := (Option Nat × Nat)) hl (fun s3 g3 => [(0, VP.of (x0)), (1, VP.eq (.pointer (some ⟨p1, 0, none⟩))), (2, VP.eq (.pointer (some ⟨p2, 0, none⟩))), (3, VP.eq (.pointer (some ⟨p3, 0, none⟩))), (17, VP.of (x0.f_Fields)), (18, VP.of (x0.f_Fields.length : Int)), (19, VP.of (e1.1)), (20, VP.of (e1.2.1)), (32, VP.of (x0.f_Headers)), (33, VP.of (x0.f_Headers.length : Int)), (34, VP.of (e2.1)), (35, VP.of (e2.2.1)), (47, VP.of (x0.f_States)), (48, VP.of (x0.f_States.length : Int)), (49, VP.of (s3.1))]) (fun s3 g3 => [⟨none, .row 3 (([] : List Int) : List Int) 0⟩, ⟨none, .row 3 (([] : List Int) : List Int) 0⟩, ⟨none, .row 3 (([] : List Int) : List Int) 0⟩, ⟨g3.1, .row 3 (s3.2.1 : List Int) g3.2⟩, ⟨g2.1, .row 3 (e2.2.2.1 : List Int) g2.2⟩, ⟨g1.1, .row 3 (e1.2.2.1 : List Int) g1.2⟩, ⟨some p3, .varX (s3.2.2 : Vector (List Int) 6) [(0, slv g1.1 e1.2.2.1.length g1.2), (1, slv g2.1 e2.2.2.1.length g2.2), (2, slv g3.1 s3.2.1.length g3.2), (3, slv none ([] : List Int).length 0), (4, slv none ([] : List Int).length 0), (5, slv none ([] : List Int).length 0)]⟩, ⟨some p2, .var ((default : Vector (List Int) 6) : Vector (List Int) 6)⟩, ⟨some p1, .var (x0 : T_api_Schema)⟩]) (fun q3 => Exit.exit 4) (fun q3 g3 => [(0, VP.of (x0)), (1, VP.eq (.pointer (some ⟨p1, 0, none⟩))), (2, VP.eq (.pointer (some ⟨p2, 0, none⟩))), (3, VP.eq (.pointer (some ⟨p3, 0, none⟩))), (17, VP.of (x0.f_Fields)), (18, VP.of (x0.f_Fields.length : Int)), (19, VP.of (e1.1)), (20, VP.of (e1.2.1)), (32, VP.of (x0.f_Headers)), (33, VP.of (x0.f_Headers.length : Int)), (34, VP.of (e2.1)), (35, VP.of (e2.2.1)), (47, VP.of (x0.f_States)), (48, VP.of (x0.f_States.length : Int)), (49, VP.of (q3.1)), (50, VP.of (q3.2.1))]) (fun q3 g3 => [⟨none, .row 3 (([] : List Int) : List Int) 0⟩, ⟨none, .row 3 (([] : List Int) : List Int) 0⟩, ⟨none, .row 3 (([] : List Int) : List Int) 0⟩, ⟨g3.1, .row 3 (q3.2.2.1 : List Int) g3.2⟩, ⟨g2.1, .row 3 (e2.2.2.1 : List Int) g2.2⟩, ⟨g1.1, .row 3 (e1.2.2.1 : List Int) g1.2⟩, ⟨some p3, .varX (q3.2.2.2 : Vector (List Int) 6) [(0, slv g1.1 e1.2.2.1.length g1.2), (1, slv g2.1 e2.2.2.1.length g2.2), (2, slv g3.1 q3.2.2.1.length g3.2), (3, slv none ([] : List Int).length 0), (4, slv none ([] : List Int).length 0), (5, slv none ([] : List Int).length 0)]⟩, ⟨some p2, .var ((default : Vector (List Int) 6) : Vector (List Int) 6)⟩, ⟨some p1, .var (x0 : T_api_Schema)⟩]) (none, 0) rfl (.same rfl (.same rfl (.same rfl (.same rfl (.same rfl (.same rfl (.same rfl (.same rfl (.same rfl (.same rfl (.same rfl (.same rfl (.same rfl (.same rfl (.same rfl .nil))))))))))))))) (fun s3 r h g3 => ?_) (fun g3 => ?_)
      · clear hl
        refine Wp.seq ?_
        refine Wp.reg ?_
        refine Sq.v (r_lss (look_t rfl) (look_t rfl)) rfl rfl rfl ?_
        refine Sq.nil ?_
        refine To.next ?_
        refine Wp.seq ?_
        refine Wp.cond (look_t rfl) (fun hc => ?_) (fun hc => ?_)
        · replace h := cond_t hc h
          refine Wp.skip ?_
          refine To.next ?_
          refine Wp.seq ?_
          refine Wp.block ?_
          refine Wp.seq ?_
          refine Wp.reg ?_
          obtain ⟨k3, hk3, h⟩ := bind_some h
          refine Sq.v (r_ias (k := k3) Try.underlying26 ty196 (look_t rfl) (look_t rfl) (idx_some hk3)) rfl rfl rfl ?_
          refine Sq.v (r_loadp ty196 (look_t rfl)) rfl rfl rfl ?_
          refine Sq.alloc zr196 rfl fun p6 => ?_
          refine Sq.store (i := 0) (Lens.id T_api_State) (v := (lget x0.f_States k3 : T_api_State)) (b' := (lget x0.f_States k3 : T_api_State)) ty196 (look_t rfl) (look_t rfl) rfl rfl rfl ?_
          refine Sq.nil ?_
          refine To.next ?_
          refine Wp.reg ?_
          refine Sq.v (r_ia (k := 2) ar219 (look_t rfl) (look_int 2) ⟨by decide, rfl⟩) rfl rfl rfl ?_
          refine Sq.v (r_loadH (i := 7) (q := 2) (β := Vector (List Int) 6) (γ := Int) ty64 (look_t rfl) rfl rfl) rfl rfl rfl ?_
          refine Sq.v (r_fa fd196_0 (look_t rfl)) rfl rfl rfl ?_
          refine Sq.v (r_load (i := 0) ((Lens.id T_api_State).comp le_T_api_State_ID) (r := (lget x0.f_States k3).f_ID) ty3 (look_t rfl) rfl rfl rfl) rfl rfl rfl ?_
          refine Sq.v (r_bsl (r := [(lget x0.f_States k3).f_ID]) Try.underlying64 ty3 zr3 rfl rfl (.cons (by simp) (look_t rfl) (.nil))) rfl rfl rfl ?_
          obtain ⟨y3, hy3, h⟩ := bind_some h
          refine Sq.app (i := 4) Try.underlying64 ty3 zr3 (bytes := 8) (by kernel_rfl) (look_t rfl) rfl (look_t rfl) hy3 rfl fun key3 cap3 => ?_
          refine Sq.v (r_ia (k := 2) ar219 (look_t rfl) (look_int 2) ⟨by decide, rfl⟩) rfl rfl rfl ?_
          refine Sq.storeH (i := 7) (γ := Int) (b' := (vset s3.2.2 2 [] : Vector (List Int) 6)) (os' := [(0, slv g1.1 e1.2.2.1.length g1.2), (1, slv g2.1 e2.2.2.1.length g2.2), (2, slv key3 y3.length cap3), (3, slv none ([] : List Int).length 0), (4, slv none ([] : List Int).length 0), (5, slv none ([] : List Int).length 0)]) ((Lens.id (Vector (List Int) 6)).comp (Lens.idx (α := List Int) 6 2 (by decide))) ty64 (look_t rfl) (look_t rfl) slv_one rfl rfl rfl rfl ?_
          refine Sq.nil ?_
          refine To.bnorm ?_
          refine To.next ?_
          refine Wp.reg ?_
          refine Sq.v (r_add (look_t rfl) (look_int 1)) rfl rfl rfl ?_
          refine Sq.v (r_move (look_t rfl)) rfl rfl rfl ?_
          refine Sq.nil ?_
          replace h := some_in h
          subst h
          exact To.roundG (key3, cap3) 1 rfl (.same rfl (.same rfl (.same rfl (.same rfl (.same rfl (.same rfl (.same rfl (.same rfl (.same rfl (.same rfl (.same rfl (.same rfl (.same rfl (.same rfl (.same rfl .nil)))))))))))))))
        · replace h := cond_f hc h
          refine Wp.exit ?_
          refine To.exit ?_
          replace h := some_in h
          subst h
          exact To.leaveG (g3.1, g3.2) 0 rfl (by simp) rfl (.same rfl (.same rfl (.same rfl (.same rfl (.same rfl (.same rfl (.same rfl (.same rfl (.same rfl (.same rfl (.same rfl (.same rfl (.same rfl (.same rfl (.same rfl (.same rfl .nil))))))))))))))))
      · clear hl
        refine To.bexit ?_
        refine To.next ?_
        refine Wp.seq ?_
        refine Wp.seq ?_
        refine Wp.reg ?_
        refine Sq.v (r_fa fd33_3 (look_t rfl)) rfl rfl rfl ?_
        refine Sq.v (r_load (i := 8) ((Lens.id T_api_Schema).comp le_T_api_Schema_Actions) (r := x0.f_Actions) ty27 (look_t rfl) rfl rfl rfl) rfl rfl rfl ?_
        refine Sq.v (r_len Try.underlying27 (look_t rfl)) rfl rfl rfl ?_
        refine Sq.v (r_move (look_int 0)) rfl rfl rfl ?_
        refine Sq.nil ?_
        refine To.next ?_
        refine Wp.block ?_
        obtain ⟨e4, hl, h⟩ := bind_some h
        refine Wp.loopG (σ := Int × (List Int) × (Vector (List Int) 6)) (ε := (Int × Bool × (List Int) × (Vector (List Int) 6))) (γ := (Option Nat × Nat)) (δ := (Option Nat × Nat)) hl (fun s4 g4 => [(0, VP.of (x0)), (1, VP.eq (.pointer (some ⟨p1, 0, none⟩))), (2, VP.eq (.pointer (some ⟨p2, 0, none⟩))), (3, VP.eq (.pointer (some ⟨p3, 0, none⟩))), (17, VP.of (x0.f_Fields)), (18, VP.of (x0.f_Fields.length : Int)), (19, VP.of (e1.1)), (20, VP.of (e1.2.1)), (32, VP.of (x0.f_Headers)), (33, VP.of (x0.f_Headers.length : Int)), (34, VP.of (e2.1)), (35, VP.of (e2.2.1)), (47, VP.of (x0.f_States)), (48, VP.of (x0.f_States.length : Int)), (49, VP.of (e3.1)), (50, VP.of (e3.2.1)), (62, VP.of (x0.f_Actions)), (63, VP.of (x0.f_Actions.length : Int)), (64, VP.of (s4.1))]) (fun s4 g4 => [⟨none, .row 3 (([] : List Int) : List Int) 0⟩, ⟨none, .row 3 (([] : List Int) : List Int) 0⟩, ⟨g4.1, .row 3 (s4.2.1 : List Int) g4.2⟩, ⟨g3.1, .row 3 (e3.2.2.1 : List Int) g3.2⟩, ⟨g2.1, .row 3 (e2.2.2.1 : List Int) g2.2⟩, ⟨g1.1, .row 3 (e1.2.2.1 : List Int) g1.2⟩, ⟨some p3, .varX (s4.2.2 : Vector (List Int) 6) [(0, slv g1.1 e1.2.2.1.length g1.2), (1, slv g2.1 e2.2.2.1.length g2.2), (2, slv g3.1 e3.2.2.1.length g3.2), (3, slv g4.1 s4.2.1.length g4.2), (4, slv none ([] : List Int).length 0), (5, slv none ([] : List Int).length 0)]⟩, ⟨some p2, .var ((default : Vector (List Int) 6) : Vector (List Int) 6)⟩, ⟨some p1, .var (x0 : T_api_Schema)⟩]) (fun q4 => Exit.exit 6) (fun q4 g4 => [(0, VP.of (x0)), (1, VP.eq (.pointer (some ⟨p1, 0, none⟩))), (2, VP.eq (.pointer (some ⟨p2, 0, none⟩))), (3, VP.eq (.pointer (some ⟨p3, 0, none⟩))), (17, VP.of (x0.f_Fields)), (18, VP.of (x0.f_Fields.length : Int)), (19, VP.of (e1.1)), (20, VP.of (e1.2.1)), (32, VP.of (x0.f_Headers)), (33, VP.of (x0.f_Headers.length : Int)), (34, VP.of (e2.1)), (35, VP.of (e2.2.1)), (47, VP.of (x0.f_States)), (48, VP.of (x0.f_States.length : Int)), (49, VP.of (e3.1)), (50, VP.of (e3.2.1)), (62, VP.of (x0.f_Actions)), (63, VP.of (x0.f_Actions.length : Int)), (64, VP.of (q4.1)), (65, VP.of (q4.2.1))]) (fun q4 g4 => [⟨none, .row 3 (([] : List Int) : List Int) 0⟩, ⟨none, .row 3 (([] : List Int) : List Int) 0⟩, ⟨g4.1, .row 3 (q4.2.2.1 : List Int) g4.2⟩, ⟨g3.1, .row 3 (e3.2.2.1 : List Int) g3.2⟩, ⟨g2.1, .row 3 (e2.2.2.1 : List Int) g2.2⟩, ⟨g1.1, .row 3 (e1.2.2.1 : List Int) g1.2⟩, ⟨some p3, .varX (q4.2.2.2 : Vector (List Int) 6) [(0, slv g1.1 e1.2.2.1.length g1.2), (1, slv g2.1 e2.2.2.1.length g2.2), (2, slv g3.1 e3.2.2.1.length g3.2), (3, slv g4.1 q4.2.2.1.length g4.2), (4, slv none ([] : List Int).length 0), (5, slv none ([] : List Int).length 0)]⟩, ⟨some p2, .var ((default : Vector (List Int) 6) : Vector (List Int) 6)⟩, ⟨some p1, .var (x0 : T_api_Schema)⟩]) (none, 0) rfl (.same rfl (.same rfl (.same rfl (.same rfl (.same rfl (.same rfl (.same rfl (.same rfl (.same rfl (.same rfl (.same rfl (.same rfl (.same rfl (.same rfl (.same rfl (.same rfl (.same rfl (.same rfl (.same rfl .nil))))))))))))))))))) (fun s4 r h g4 => ?_) (fun g4 => ?_)
        · clear hl
          refine Wp.seq ?_
          refine Wp.reg ?_
          refine Sq.v (r_lss (look_t rfl) (look_t rfl)) rfl rfl rfl ?_
          refine Sq.nil ?_
          refine To.next ?_
          refine Wp.seq ?_
          refine Wp.cond (look_t rfl) (fun hc => ?_) (fun hc => ?_)
          · replace h := cond_t hc h
            refine Wp.skip ?_
            refine To.next ?_
            refine Wp.seq ?_
            refine Wp.block ?_
            refine Wp.seq ?_
            refine Wp.reg ?_
            obtain ⟨k4, hk4, h⟩ := bind_some h
            refine Sq.v (r_ias (k := k4) Try.underlying27 ty168 (look_t rfl) (look_t rfl) (idx_some hk4)) rfl rfl rfl ?_
            refine Sq.v (r_loadp ty168 (look_t rfl)) rfl rfl rfl ?_
            refine Sq.alloc zr168 rfl fun p7 => ?_
            refine Sq.store (i := 0) (Lens.id T_api_Action) (v := (lget x0.f_Actions k4 : T_api_Action)) (b' := (lget x0.f_Actions k4 : T_api_Action)) ty168 (look_t rfl) (look_t rfl) rfl rfl rfl ?_
            refine Sq.nil ?_
            refine To.next ?_
            refine Wp.reg ?_
            refine Sq.v (r_ia (k := 3) ar219 (look_t rfl) (look_int 3) ⟨by decide, rfl⟩) rfl rfl rfl ?_
            refine Sq.v (r_loadH (i := 7) (q := 3) (β := Vector (List Int) 6) (γ := Int) ty64 (look_t rfl) rfl rfl) rfl rfl rfl ?_
            refine Sq.v (r_fa fd168_0 (look_t rfl)) rfl rfl rfl ?_
            refine Sq.v (r_load (i := 0) ((Lens.id T_api_Action).comp le_T_api_Action_ID) (r := (lget x0.f_Actions k4).f_ID) ty3 (look_t rfl) rfl rfl rfl) rfl rfl rfl ?_
            refine Sq.v (r_bsl (r := [(lget x0.f_Actions k4).f_ID]) Try.underlying64 ty3 zr3 rfl rfl (.cons (by simp) (look_t rfl) (.nil))) rfl rfl rfl ?_
            obtain ⟨y4, hy4, h⟩ := bind_some h
            refine Sq.app (i := 3) Try.underlying64 ty3 zr3 (bytes := 8) (by kernel_rfl) (look_t rfl) rfl (look_t rfl) hy4 rfl fun key4 cap4 => ?_
            refine Sq.v (r_ia (k := 3) ar219 (look_t rfl) (look_int 3) ⟨by decide, rfl⟩) rfl rfl rfl ?_
            refine Sq.storeH (i := 7) (γ := Int) (b' := (vset s4.2.2 3 [] : Vector (List Int) 6)) (os' := [(0, slv g1.1 e1.2.2.1.length g1.2), (1, slv g2.1 e2.2.2.1.length g2.2), (2, slv g3.1 e3.2.2.1.length g3.2), (3, slv key4 y4.length cap4), (4, slv none ([] : List Int).length 0), (5, slv none ([] : List Int).length 0)]) ((Lens.id (Vector (List Int) 6)).comp (Lens.idx (α := List Int) 6 3 (by decide))) ty64 (look_t rfl) (look_t rfl) slv_one rfl rfl rfl rfl ?_
            refine Sq.nil ?_
            refine To.bnorm ?_
            refine To.next ?_
            refine Wp.reg ?_
            refine Sq.v (r_add (look_t rfl) (look_int 1)) rfl rfl rfl ?_
            refine Sq.v (r_move (look_t rfl)) rfl rfl rfl ?_
            refine Sq.nil ?_
            replace h := some_in h
            subst h
            exact To.roundG (key4, cap4) 1 rfl (.same rfl (.same rfl (.same rfl (.same rfl (.same rfl (.same rfl (.same rfl (.same rfl (.same rfl (.same rfl (.same rfl (.same rfl (.same rfl (.same rfl (.same rfl (.same rfl (.same rfl (.same rfl (.same rfl .nil)))))))))))))))))))
          · replace h := cond_f hc h
            refine Wp.exit ?_
            refine To.exit ?_
            replace h := some_in h
            subst h
            exact To.leaveG (g4.1, g4.2) 0 rfl (by simp) rfl (.same rfl (.same rfl (.same rfl (.same rfl (.same rfl (.same rfl (.same rfl (.same rfl (.same rfl (.same rfl (.same rfl (.same rfl (.same rfl (.same rfl (.same rfl (.same rfl (.same rfl (.same rfl (.same rfl (.same rfl .nil))))))))))))))))))))
        · clear hl
          refine To.bexit ?_
          refine To.next ?_
          refine Wp.seq ?_
          refine Wp.seq ?_
          refine Wp.reg ?_
          refine Sq.v (r_fa fd33_4 (look_t rfl)) rfl rfl rfl ?_
          refine Sq.v (r_load (i := 8) ((Lens.id T_api_Schema).comp le_T_api_Schema_Tables) (r := x0.f_Tables) ty28 (look_t rfl) rfl rfl rfl) rfl rfl rfl ?_
          refine Sq.v (r_len Try.underlying28 (look_t rfl)) rfl rfl rfl ?_
          refine Sq.v (r_move (look_int 0)) rfl rfl rfl ?_
          refine Sq.nil ?_
          refine To.next ?_
          refine Wp.block ?_
          obtain ⟨e5, hl, h⟩ := bind_some h
          refine Wp.loopG (σ := Int × (List Int) × (Vector (List Int) 6)) (ε := (Int × Bool × (List Int) × (Vector (List Int) 6))) (γ := (Option Nat × Nat)) (δ := (Option Nat × Nat)) hl (fun s5 g5 => [(0, VP.of (x0)), (1, VP.eq (.pointer (some ⟨p1, 0, none⟩))), (2, VP.eq (.pointer (some ⟨p2, 0, none⟩))), (3, VP.eq (.pointer (some ⟨p3, 0, none⟩))), (17, VP.of (x0.f_Fields)), (18, VP.of (x0.f_Fields.length : Int)), (19, VP.of (e1.1)), (20, VP.of (e1.2.1)), (32, VP.of (x0.f_Headers)), (33, VP.of (x0.f_Headers.length : Int)), (34, VP.of (e2.1)), (35, VP.of (e2.2.1)), (47, VP.of (x0.f_States)), (48, VP.of (x0.f_States.length : Int)), (49, VP.of (e3.1)), (50, VP.of (e3.2.1)), (62, VP.of (x0.f_Actions)), (63, VP.of (x0.f_Actions.length : Int)), (64, VP.of (e4.1)), (65, VP.of (e4.2.1)), (77, VP.of (x0.f_Tables)), (78, VP.of (x0.f_Tables.length : Int)), (79, VP.of (s5.1))]) (fun s5 g5 => [⟨none, .row 3 (([] : List Int) : List Int) 0⟩, ⟨g5.1, .row 3 (s5.2.1 : List Int) g5.2⟩, ⟨g4.1, .row 3 (e4.2.2.1 : List Int) g4.2⟩, ⟨g3.1, .row 3 (e3.2.2.1 : List Int) g3.2⟩, ⟨g2.1, .row 3 (e2.2.2.1 : List Int) g2.2⟩, ⟨g1.1, .row 3 (e1.2.2.1 : List Int) g1.2⟩, ⟨some p3, .varX (s5.2.2 : Vector (List Int) 6) [(0, slv g1.1 e1.2.2.1.length g1.2), (1, slv g2.1 e2.2.2.1.length g2.2), (2, slv g3.1 e3.2.2.1.length g3.2), (3, slv g4.1 e4.2.2.1.length g4.2), (4, slv g5.1 s5.2.1.length g5.2), (5, slv none ([] : List Int).length 0)]⟩, ⟨some p2, .var ((default : Vector (List Int) 6) : Vector (List Int) 6)⟩, ⟨some p1, .var (x0 : T_api_Schema)⟩]) (fun q5 => Exit.exit 8) (fun q5 g5 => [(0, VP.of (x0)), (1, VP.eq (.pointer (some ⟨p1, 0, none⟩))), (2, VP.eq (.pointer (some ⟨p2, 0, none⟩))), (3, VP.eq (.pointer (some ⟨p3, 0, none⟩))), (17, VP.of (x0.f_Fields)), (18, VP.of (x0.f_Fields.length : Int)), (19, VP.of (e1.1)), (20, VP.of (e1.2.1)), (32, VP.of (x0.f_Headers)), (33, VP.of (x0.f_Headers.length : Int)), (34, VP.of (e2.1)), (35, VP.of (e2.2.1)), (47, VP.of (x0.f_States)), (48, VP.of (x0.f_States.length : Int)), (49, VP.of (e3.1)), (50, VP.of (e3.2.1)), (62, VP.of (x0.f_Actions)), (63, VP.of (x0.f_Actions.length : Int)), (64, VP.of (e4.1)), (65, VP.of (e4.2.1)), (77, VP.of (x0.f_Tables)), (78, VP.of (x0.f_Tables.length : Int)), (79, VP.of (q5.1)), (80, VP.of (q5.2.1))]) (fun q5 g5 => [⟨none, .row 3 (([] : List Int) : List Int) 0⟩, ⟨g5.1, .row 3 (q5.2.2.1 : List Int) g5.2⟩, ⟨g4.1, .row 3 (e4.2.2.1 : List Int) g4.2⟩, ⟨g3.1, .row 3 (e3.2.2.1 : List Int) g3.2⟩, ⟨g2.1, .row 3 (e2.2.2.1 : List Int) g2.2⟩, ⟨g1.1, .row 3 (e1.2.2.1 : List Int) g1.2⟩, ⟨some p3, .varX (q5.2.2.2 : Vector (List Int) 6) [(0, slv g1.1 e1.2.2.1.length g1.2), (1, slv g2.1 e2.2.2.1.length g2.2), (2, slv g3.1 e3.2.2.1.length g3.2), (3, slv g4.1 e4.2.2.1.length g4.2), (4, slv g5.1 q5.2.2.1.length g5.2), (5, slv none ([] : List Int).length 0)]⟩, ⟨some p2, .var ((default : Vector (List Int) 6) : Vector (List Int) 6)⟩, ⟨some p1, .var (x0 : T_api_Schema)⟩]) (none, 0) rfl (.same rfl (.same rfl (.same rfl (.same rfl (.same rfl (.same rfl (.same rfl (.same rfl (.same rfl (.same rfl (.same rfl (.same rfl (.same rfl (.same rfl (.same rfl (.same rfl (.same rfl (.same rfl (.same rfl (.same rfl (.same rfl (.same rfl (.same rfl .nil))))))))))))))))))))))) (fun s5 r h g5 => ?_) (fun g5 => ?_)
          · clear hl
            refine Wp.seq ?_
            refine Wp.reg ?_
            refine Sq.v (r_lss (look_t rfl) (look_t rfl)) rfl rfl rfl ?_
            refine Sq.nil ?_
            refine To.next ?_
            refine Wp.seq ?_
            refine Wp.cond (look_t rfl) (fun hc => ?_) (fun hc => ?_)
            · replace h := cond_t hc h
              refine Wp.skip ?_
              refine To.next ?_
              refine Wp.seq ?_
              refine Wp.block ?_
              refine Wp.seq ?_
              refine Wp.reg ?_
              obtain ⟨k5, hk5, h⟩ := bind_some h
              refine Sq.v (r_ias (k := k5) Try.underlying28 ty136 (look_t rfl) (look_t rfl) (idx_some hk5)) rfl rfl rfl ?_
              refine Sq.v (r_loadp ty136 (look_t rfl)) rfl rfl rfl ?_
              refine Sq.alloc zr136 rfl fun p8 => ?_
              refine Sq.store (i := 0) (Lens.id T_api_Table) (v := (lget x0.f_Tables k5 : T_api_Table)) (b' := (lget x0.f_Tables k5 : T_api_Table)) ty136 (look_t rfl) (look_t rfl) rfl rfl rfl ?_
              refine Sq.nil ?_
              refine To.next ?_
              refine Wp.reg ?_
              refine Sq.v (r_ia (k := 4) ar219 (look_t rfl) (look_int 4) ⟨by decide, rfl⟩) rfl rfl rfl ?_
              refine Sq.v (r_loadH (i := 7) (q := 4) (β := Vector (List Int) 6) (γ := Int) ty64 (look_t rfl) rfl rfl) rfl rfl rfl ?_
              refine Sq.v (r_fa fd136_0 (look_t rfl)) rfl rfl rfl ?_
              refine Sq.v (r_load (i := 0) ((Lens.id T_api_Table).comp le_T_api_Table_ID) (r := (lget x0.f_Tables k5).f_ID) ty3 (look_t rfl) rfl rfl rfl) rfl rfl rfl ?_
              refine Sq.v (r_bsl (r := [(lget x0.f_Tables k5).f_ID]) Try.underlying64 ty3 zr3 rfl rfl (.cons (by simp) (look_t rfl) (.nil))) rfl rfl rfl ?_
              obtain ⟨y5, hy5, h⟩ := bind_some h
              refine Sq.app (i := 2) Try.underlying64 ty3 zr3 (bytes := 8) (by kernel_rfl) (look_t rfl) rfl (look_t rfl) hy5 rfl fun key5 cap5 => ?_
              refine Sq.v (r_ia (k := 4) ar219 (look_t rfl) (look_int 4) ⟨by decide, rfl⟩) rfl rfl rfl ?_
              refine Sq.storeH (i := 7) (γ := Int) (b' := (vset s5.2.2 4 [] : Vector (List Int) 6)) (os' := [(0, slv g1.1 e1.2.2.1.length g1.2), (1, slv g2.1 e2.2.2.1.length g2.2), (2, slv g3.1 e3.2.2.1.length g3.2), (3, slv g4.1 e4.2.2.1.length g4.2), (4, slv key5 y5.length cap5), (5, slv none ([] : List Int).length 0)]) ((Lens.id (Vector (List Int) 6)).comp (Lens.idx (α := List Int) 6 4 (by decide))) ty64 (look_t rfl) (look_t rfl) slv_one rfl rfl rfl rfl ?_
              refine Sq.nil ?_
              refine To.bnorm ?_
              refine To.next ?_
              refine Wp.reg ?_
              refine Sq.v (r_add (look_t rfl) (look_int 1)) rfl rfl rfl ?_
              refine Sq.v (r_move (look_t rfl)) rfl rfl rfl ?_
              refine Sq.nil ?_
              replace h := some_in h
              subst h
              exact To.roundG (key5, cap5) 1 rfl (.same rfl (.same rfl (.same rfl (.same rfl (.same rfl (.same rfl (.same rfl (.same rfl (.same rfl (.same rfl (.same rfl (.same rfl (.same rfl (.same rfl (.same rfl (.same rfl (.same rfl (.same rfl (.same rfl (.same rfl (.same rfl (.same rfl (.same rfl .nil)))))))))))))))))))))))
            · replace h := cond_f hc h
              refine Wp.exit ?_
              refine To.exit ?_
              replace h := some_in h
              subst h
              exact To.leaveG (g5.1, g5.2) 0 rfl (by simp) rfl (.same rfl (.same rfl (.same rfl (.same rfl (.same rfl (.same rfl (.same rfl (.same rfl (.same rfl (.same rfl (.same rfl (.same rfl (.same rfl (.same rfl (.same rfl (.same rfl (.same rfl (.same rfl (.same rfl (.same rfl (.same rfl (.same rfl (.same rfl (.same rfl .nil))))))))))))))))))))))))
          · clear hl
            refine To.bexit ?_
            refine To.next ?_
            refine Wp.seq ?_
            refine Wp.seq ?_
            refine Wp.reg ?_
            refine Sq.v (r_fa fd33_6 (look_t rfl)) rfl rfl rfl ?_
            refine Sq.v (r_load (i := 8) ((Lens.id T_api_Schema).comp le_T_api_Schema_Roles) (r := x0.f_Roles) ty30 (look_t rfl) rfl rfl rfl) rfl rfl rfl ?_
            refine Sq.v (r_len Try.underlying30 (look_t rfl)) rfl rfl rfl ?_
            refine Sq.v (r_move (look_int 0)) rfl rfl rfl ?_
            refine Sq.nil ?_
            refine To.next ?_
            refine Wp.block ?_
            obtain ⟨e6, hl, h⟩ := bind_some h
            refine Wp.loopG (σ := Int × (List Int) × (Vector (List Int) 6)) (ε := (Int × Bool × (List Int) × (Vector (List Int) 6))) (γ := (Option Nat × Nat)) (δ := (Option Nat × Nat)) hl (fun s6 g6 => [(0, VP.of (x0)), (1, VP.eq (.pointer (some ⟨p1, 0, none⟩))), (2, VP.eq (.pointer (some ⟨p2, 0, none⟩))), (3, VP.eq (.pointer (some ⟨p3, 0, none⟩))), (17, VP.of (x0.f_Fields)), (18, VP.of (x0.f_Fields.length : Int)), (19, VP.of (e1.1)), (20, VP.of (e1.2.1)), (32, VP.of (x0.f_Headers)), (33, VP.of (x0.f_Headers.length : Int)), (34, VP.of (e2.1)), (35, VP.of (e2.2.1)), (47, VP.of (x0.f_States)), (48, VP.of (x0.f_States.length : Int)), (49, VP.of (e3.1)), (50, VP.of (e3.2.1)), (62, VP.of (x0.f_Actions)), (63, VP.of (x0.f_Actions.length : Int)), (64, VP.of (e4.1)), (65, VP.of (e4.2.1)), (77, VP.of (x0.f_Tables)), (78, VP.of (x0.f_Tables.length : Int)), (79, VP.of (e5.1)), (80, VP.of (e5.2.1)), (92, VP.of (x0.f_Roles)), (93, VP.of (x0.f_Roles.length : Int)), (94, VP.of (s6.1))]) (fun s6 g6 => [⟨g6.1, .row 3 (s6.2.1 : List Int) g6.2⟩, ⟨g5.1, .row 3 (e5.2.2.1 : List Int) g5.2⟩, ⟨g4.1, .row 3 (e4.2.2.1 : List Int) g4.2⟩, ⟨g3.1, .row 3 (e3.2.2.1 : List Int) g3.2⟩, ⟨g2.1, .row 3 (e2.2.2.1 : List Int) g2.2⟩, ⟨g1.1, .row 3 (e1.2.2.1 : List Int) g1.2⟩, ⟨some p3, .varX (s6.2.2 : Vector (List Int) 6) [(0, slv g1.1 e1.2.2.1.length g1.2), (1, slv g2.1 e2.2.2.1.length g2.2), (2, slv g3.1 e3.2.2.1.length g3.2), (3, slv g4.1 e4.2.2.1.length g4.2), (4, slv g5.1 e5.2.2.1.length g5.2), (5, slv g6.1 s6.2.1.length g6.2)]⟩, ⟨some p2, .var ((default : Vector (List Int) 6) : Vector (List Int) 6)⟩, ⟨some p1, .var (x0 : T_api_Schema)⟩]) (fun q6 => Exit.exit 10) (fun q6 g6 => [(0, VP.of (x0)), (1, VP.eq (.pointer (some ⟨p1, 0, none⟩))), (2, VP.eq (.pointer (some ⟨p2, 0, none⟩))), (3, VP.eq (.pointer (some ⟨p3, 0, none⟩))), (17, VP.of (x0.f_Fields)), (18, VP.of (x0.f_Fields.length : Int)), (19, VP.of (e1.1)), (20, VP.of (e1.2.1)), (32, VP.of (x0.f_Headers)), (33, VP.of (x0.f_Headers.length : Int)), (34, VP.of (e2.1)), (35, VP.of (e2.2.1)), (47, VP.of (x0.f_States)), (48, VP.of (x0.f_States.length : Int)), (49, VP.of (e3.1)), (50, VP.of (e3.2.1)), (62, VP.of (x0.f_Actions)), (63, VP.of (x0.f_Actions.length : Int)), (64, VP.of (e4.1)), (65, VP.of (e4.2.1)), (77, VP.of (x0.f_Tables)), (78, VP.of (x0.f_Tables.length : Int)), (79, VP.of (e5.1)), (80, VP.of (e5.2.1)), (92, VP.of (x0.f_Roles)), (93, VP.of (x0.f_Roles.length : Int)), (94, VP.of (q6.1)), (95, VP.of (q6.2.1))]) (fun q6 g6 => [⟨g6.1, .row 3 (q6.2.2.1 : List Int) g6.2⟩, ⟨g5.1, .row 3 (e5.2.2.1 : List Int) g5.2⟩, ⟨g4.1, .row 3 (e4.2.2.1 : List Int) g4.2⟩, ⟨g3.1, .row 3 (e3.2.2.1 : List Int) g3.2⟩, ⟨g2.1, .row 3 (e2.2.2.1 : List Int) g2.2⟩, ⟨g1.1, .row 3 (e1.2.2.1 : List Int) g1.2⟩, ⟨some p3, .varX (q6.2.2.2 : Vector (List Int) 6) [(0, slv g1.1 e1.2.2.1.length g1.2), (1, slv g2.1 e2.2.2.1.length g2.2), (2, slv g3.1 e3.2.2.1.length g3.2), (3, slv g4.1 e4.2.2.1.length g4.2), (4, slv g5.1 e5.2.2.1.length g5.2), (5, slv g6.1 q6.2.2.1.length g6.2)]⟩, ⟨some p2, .var ((default : Vector (List Int) 6) : Vector (List Int) 6)⟩, ⟨some p1, .var (x0 : T_api_Schema)⟩]) (none, 0) rfl (.same rfl (.same rfl (.same rfl (.same rfl (.same rfl (.same rfl (.same rfl (.same rfl (.same rfl (.same rfl (.same rfl (.same rfl (.same rfl (.same rfl (.same rfl (.same rfl (.same rfl (.same rfl (.same rfl (.same rfl (.same rfl (.same rfl (.same rfl (.same rfl (.same rfl (.same rfl (.same rfl .nil))))))))))))))))))))))))))) (fun s6 r h g6 => ?_) (fun g6 => ?_)
            · clear hl
              refine Wp.seq ?_
              refine Wp.reg ?_
              refine Sq.v (r_lss (look_t rfl) (look_t rfl)) rfl rfl rfl ?_
              refine Sq.nil ?_
              refine To.next ?_
              refine Wp.seq ?_
              refine Wp.cond (look_t rfl) (fun hc => ?_) (fun hc => ?_)
              · replace h := cond_t hc h
                refine Wp.skip ?_
                refine To.next ?_
                refine Wp.seq ?_
                refine Wp.block ?_
                refine Wp.seq ?_
                refine Wp.reg ?_
                obtain ⟨k6, hk6, h⟩ := bind_some h
                refine Sq.v (r_ias (k := k6) Try.underlying30 ty207 (look_t rfl) (look_t rfl) (idx_some hk6)) rfl rfl rfl ?_
                refine Sq.v (r_loadp ty207 (look_t rfl)) rfl rfl rfl ?_
                refine Sq.alloc zr207 rfl fun p9 => ?_
                refine Sq.store (i := 0) (Lens.id T_api_Role) (v := (lget x0.f_Roles k6 : T_api_Role)) (b' := (lget x0.f_Roles k6 : T_api_Role)) ty207 (look_t rfl) (look_t rfl) rfl rfl rfl ?_
                refine Sq.nil ?_
                refine To.next ?_
                refine Wp.reg ?_
                refine Sq.v (r_ia (k := 5) ar219 (look_t rfl) (look_int 5) ⟨by decide, rfl⟩) rfl rfl rfl ?_
                refine Sq.v (r_loadH (i := 7) (q := 5) (β := Vector (List Int) 6) (γ := Int) ty64 (look_t rfl) rfl rfl) rfl rfl rfl ?_
                refine Sq.v (r_fa fd207_0 (look_t rfl)) rfl rfl rfl ?_
                refine Sq.v (r_load (i := 0) ((Lens.id T_api_Role).comp le_T_api_Role_ID) (r := (lget x0.f_Roles k6).f_ID) ty3 (look_t rfl) rfl rfl rfl) rfl rfl rfl ?_
                refine Sq.v (r_bsl (r := [(lget x0.f_Roles k6).f_ID]) Try.underlying64 ty3 zr3 rfl rfl (.cons (by simp) (look_t rfl) (.nil))) rfl rfl rfl ?_
                obtain ⟨y6, hy6, h⟩ := bind_some h
                refine Sq.app (i := 1) Try.underlying64 ty3 zr3 (bytes := 8) (by kernel_rfl) (look_t rfl) rfl (look_t rfl) hy6 rfl fun key6 cap6 => ?_
                refine Sq.v (r_ia (k := 5) ar219 (look_t rfl) (look_int 5) ⟨by decide, rfl⟩) rfl rfl rfl ?_
                refine Sq.storeH (i := 7) (γ := Int) (b' := (vset s6.2.2 5 [] : Vector (List Int) 6)) (os' := [(0, slv g1.1 e1.2.2.1.length g1.2), (1, slv g2.1 e2.2.2.1.length g2.2), (2, slv g3.1 e3.2.2.1.length g3.2), (3, slv g4.1 e4.2.2.1.length g4.2), (4, slv g5.1 e5.2.2.1.length g5.2), (5, slv key6 y6.length cap6)]) ((Lens.id (Vector (List Int) 6)).comp (Lens.idx (α := List Int) 6 5 (by decide))) ty64 (look_t rfl) (look_t rfl) slv_one rfl rfl rfl rfl ?_
                refine Sq.nil ?_
                refine To.bnorm ?_
                refine To.next ?_
                refine Wp.reg ?_
                refine Sq.v (r_add (look_t rfl) (look_int 1)) rfl rfl rfl ?_
                refine Sq.v (r_move (look_t rfl)) rfl rfl rfl ?_
                refine Sq.nil ?_
                replace h := some_in h
                subst h
                exact To.roundG (key6, cap6) 1 rfl (.same rfl (.same rfl (.same rfl (.same rfl (.same rfl (.same rfl (.same rfl (.same rfl (.same rfl (.same rfl (.same rfl (.same rfl (.same rfl (.same rfl (.same rfl (.same rfl (.same rfl (.same rfl (.same rfl (.same rfl (.same rfl (.same rfl (.same rfl (.same rfl (.same rfl (.same rfl (.same rfl .nil)))))))))))))))))))))))))))
              · replace h := cond_f hc h
                refine Wp.exit ?_
                refine To.exit ?_
                replace h := some_in h
                subst h
                exact To.leaveG (g6.1, g6.2) 0 rfl (by simp) rfl (.same rfl (.same rfl (.same rfl (.same rfl (.same rfl (.same rfl (.same rfl (.same rfl (.same rfl (.same rfl (.same rfl (.same rfl (.same rfl (.same rfl (.same rfl (.same rfl (.same rfl (.same rfl (.same rfl (.same rfl (.same rfl (.same rfl (.same rfl (.same rfl (.same rfl (.same rfl (.same rfl (.same rfl .nil))))))))))))))))))))))))))))
            · clear hl
              refine To.bexit ?_
              refine To.next ?_
              refine Wp.seq ?_
              refine Wp.reg ?_
              refine Sq.thaw (β := Vector (List Int) 6) (γ := Int) (b' := (vset e6.2.2.2 0 e1.2.2.1 : Vector (List Int) 6)) ((Lens.id (Vector (List Int) 6)).comp (Lens.idx (α := List Int) 6 0 (by decide))) 6 5 0 rfl rfl rfl rfl rfl rfl ?_
              refine Sq.thaw (β := Vector (List Int) 6) (γ := Int) (b' := (vset (vset e6.2.2.2 0 e1.2.2.1) 1 e2.2.2.1 : Vector (List Int) 6)) ((Lens.id (Vector (List Int) 6)).comp (Lens.idx (α := List Int) 6 1 (by decide))) 6 4 0 rfl rfl rfl rfl rfl rfl ?_
              refine Sq.thaw (β := Vector (List Int) 6) (γ := Int) (b' := (vset (vset (vset e6.2.2.2 0 e1.2.2.1) 1 e2.2.2.1) 2 e3.2.2.1 : Vector (List Int) 6)) ((Lens.id (Vector (List Int) 6)).comp (Lens.idx (α := List Int) 6 2 (by decide))) 6 3 0 rfl rfl rfl rfl rfl rfl ?_
              refine Sq.thaw (β := Vector (List Int) 6) (γ := Int) (b' := (vset (vset (vset (vset e6.2.2.2 0 e1.2.2.1) 1 e2.2.2.1) 2 e3.2.2.1) 3 e4.2.2.1 : Vector (List Int) 6)) ((Lens.id (Vector (List Int) 6)).comp (Lens.idx (α := List Int) 6 3 (by decide))) 6 2 0 rfl rfl rfl rfl rfl rfl ?_
              refine Sq.thaw (β := Vector (List Int) 6) (γ := Int) (b' := (vset (vset (vset (vset (vset e6.2.2.2 0 e1.2.2.1) 1 e2.2.2.1) 2 e3.2.2.1) 3 e4.2.2.1) 4 e5.2.2.1 : Vector (List Int) 6)) ((Lens.id (Vector (List Int) 6)).comp (Lens.idx (α := List Int) 6 4 (by decide))) 6 1 0 rfl rfl rfl rfl rfl rfl ?_
              refine Sq.thaw (β := Vector (List Int) 6) (γ := Int) (b' := (vset (vset (vset (vset (vset (vset e6.2.2.2 0 e1.2.2.1) 1 e2.2.2.1) 2 e3.2.2.1) 3 e4.2.2.1) 4 e5.2.2.1) 5 e6.2.2.1 : Vector (List Int) 6)) ((Lens.id (Vector (List Int) 6)).comp (Lens.idx (α := List Int) 6 5 (by decide))) 6 0 0 rfl rfl rfl rfl rfl rfl ?_
              refine Sq.fromX 6 rfl ?_
              obtain ⟨z1, hz1, h⟩ := bind_some h
              refine Sq.v ((r_load (i := 6) (Lens.id (Vector (List Int) 6)) (r := (vset (vset (vset (vset (vset (vset e6.2.2.2 0 e1.2.2.1) 1 e2.2.2.1) 2 e3.2.2.1) 3 e4.2.2.1) 4 e5.2.2.1) 5 e6.2.2.1)) ty219 (look_t rfl) rfl rfl rfl).as (some_in hz1)) rfl rfl rfl ?_
              refine Sq.store (i := 7) (Lens.id (Vector (List Int) 6)) (v := (z1 : Vector (List Int) 6)) (b' := (z1 : Vector (List Int) 6)) ty219 (look_t rfl) (look_t rfl) rfl rfl rfl ?_
              refine Sq.nil ?_
              refine To.next ?_
              refine Wp.ret ?_
              replace h := some_in h
              subst h
              exact To.end1 rfl (rv_c (i := 7) ty219 rfl rfl)
end Go.Proofs.Ytodajdohokmjnaa
