/-
  Printed by the decompiler (dec.py) out of the seat's translation. Each function meets its functional program. Conditions: none.
-/
import Derived.Test.YtabodolbdalimaaDc4
import Derived.Test.YtabodolbdalimaaDc5
import Derived.Test.YtabodolbdalimaaDc6
import Derived.Test.YtabodolbdalimaaDc7
namespace Go.Proofs.Ytabodolbdalimaa
open Go Gv
set_option linter.unusedVariables false
set_option linter.unusedSimpArgs false
set_option maxRecDepth 100000
set_option maxHeartbeats 2000000 in
theorem Cr_cover_covered (n : Nat) : ∀ (x0 : T_cube_Cube) (x1 : List T_cube_Cube)  (r : Bool), Lr_cover_covered n x0 x1 = some r → Meets Try.prog 68 [VP.of (x0), VP.of (x1)] (VP.of (r)) := by
  induction n with
  | zero => intro x0 x1  r h; simp [Lr_cover_covered] at h
  | succ n ih =>
    intro x0 x1  r h
    simp only [Lr_cover_covered] at h
    refine Meets.of Try.func68 rfl Try.ntmps68 rfl fun W A => ?_
    refine Wp.seq ?_
    refine Wp.reg ?_
    refine Sq.box (z := (x0 : T_cube_Cube)) (look_t rfl) rfl fun p1 => ?_
    refine Sq.v (r_asg (look_bool false)) rfl rfl rfl ?_
    refine Sq.nil ?_
    refine To.next ?_
    refine Wp.seq ?_
    refine Wp.reg ?_
    refine Sq.v (r_load (i := 0) (Lens.id T_cube_Cube) (r := x0) ty28 (look_t rfl) rfl rfl rfl) rfl rfl rfl ?_
    refine Sq.v (r_move (look_t rfl)) rfl rfl rfl ?_
    obtain ⟨y1, hy1, h⟩ := bind_some h
    refine Sq.v (r_call en67 (C_cover_near hy1) ⟨look_t rfl, look_t rfl, trivial⟩) rfl rfl rfl ?_
    refine Sq.v (r_asg (look_t rfl)) rfl rfl rfl ?_
    refine Sq.nil ?_
    refine To.next ?_
    refine Wp.seq ?_
    refine Wp.seq ?_
    refine Wp.reg ?_
    refine Sq.v (r_move (look_t rfl)) rfl rfl rfl ?_
    refine Sq.share (α := T_cube_Cube) 0 2 rfl rfl ?_
    refine Sq.v (r_clo1 (F := (fun a0 => L_cover_covered_fn1 a0 x0)) (τs := [VP.ptr x0]) en95 ⟨look_t rfl, trivial⟩ (fun _ _ h => C_cover_covered_fn1 h)) rfl rfl rfl ?_
    obtain ⟨y2, hy2, h⟩ := bind_some h
    refine Sq.v (r_call en94 (C_slices_ContainsFunc_cube_Cube hy2) ⟨look_t rfl, look_t rfl, trivial⟩) rfl rfl rfl ?_
    refine Sq.nil ?_
    refine To.next ?_
    refine Wp.cond (look_t rfl) (fun hc => ?_) (fun hc => ?_)
    · replace h := cond_t hc h
      refine Wp.seq ?_
      refine Wp.reg ?_
      refine Sq.v (r_asg (look_bool true)) rfl rfl rfl ?_
      refine Sq.nil ?_
      refine To.next ?_
      refine Wp.ret ?_
      refine To.ret ?_
      replace h := some_in h
      subst h
      exact To.end1 rfl (rv_t rfl)
    · replace h := cond_f hc h
      refine Wp.skip ?_
      refine To.next ?_
      refine Wp.seq ?_
      refine Wp.seq ?_
      refine Wp.reg ?_
      refine Sq.v (r_move (look_t rfl)) rfl rfl rfl ?_
      refine Sq.v (r_len Try.underlying31 (look_t rfl)) rfl rfl rfl ?_
      refine Sq.v (r_eql (look_t rfl) (look_int 0)) rfl rfl rfl ?_
      refine Sq.nil ?_
      refine To.next ?_
      refine Wp.cond (look_t rfl) (fun hc => ?_) (fun hc => ?_)
      · replace h := cond_t hc h
        refine Wp.seq ?_
        refine Wp.reg ?_
        refine Sq.v (r_asg (look_bool false)) rfl rfl rfl ?_
        refine Sq.nil ?_
        refine To.next ?_
        refine Wp.ret ?_
        refine To.ret ?_
        replace h := some_in h
        subst h
        exact To.end1 rfl (rv_t rfl)
      · replace h := cond_f hc h
        refine Wp.skip ?_
        refine To.next ?_
        refine Wp.seq ?_
        refine Wp.reg ?_
        refine Sq.v (r_loadp ty28 (look_t rfl)) rfl rfl rfl ?_
        refine Sq.v (r_move (look_t rfl)) rfl rfl rfl ?_
        obtain ⟨y3, hy3, h⟩ := bind_some h
        refine Sq.v (r_call en96 (C_cover_wanted hy3) ⟨look_t rfl, look_t rfl, trivial⟩) rfl rfl rfl ?_
        refine Sq.v (r_move (look_t rfl)) rfl rfl rfl ?_
        refine Sq.v (r_ext (look_t rfl) rfl) rfl rfl rfl ?_
        refine Sq.v (r_ext (look_t rfl) rfl) rfl rfl rfl ?_
        refine Sq.alloc zr26 rfl fun p2 => ?_
        refine Sq.alloc zr26 rfl fun p3 => ?_
        refine Sq.store (i := 1) (Lens.id (Vector T_api_Value 4)) (v := (y3.1 : Vector T_api_Value 4)) (b' := (y3.1 : Vector T_api_Value 4)) ty26 (look_t rfl) (look_t rfl) rfl rfl rfl ?_
        refine Sq.store (i := 0) (Lens.id (Vector T_api_Value 4)) (v := (y3.2 : Vector T_api_Value 4)) (b' := (y3.2 : Vector T_api_Value 4)) ty26 (look_t rfl) (look_t rfl) rfl rfl rfl ?_
        refine Sq.nil ?_
        refine To.next ?_
        refine Wp.seq ?_
        refine Wp.seq ?_
        refine Wp.reg ?_
        refine Sq.v (r_loadp ty28 (look_t rfl)) rfl rfl rfl ?_
        refine Sq.v (r_load (i := 1) (Lens.id (Vector T_api_Value 4)) (r := y3.1) ty26 (look_t rfl) rfl rfl rfl) rfl rfl rfl ?_
        refine Sq.v (r_load (i := 0) (Lens.id (Vector T_api_Value 4)) (r := y3.2) ty26 (look_t rfl) rfl rfl rfl) rfl rfl rfl ?_
        obtain ⟨y4, hy4, h⟩ := bind_some h
        refine Sq.v (r_call en97 (C_cover_escape hy4) ⟨look_t rfl, look_t rfl, look_t rfl, trivial⟩) rfl rfl rfl ?_
        refine Sq.alloc zr28 rfl fun p4 => ?_
        refine Sq.store (i := 0) (Lens.id T_cube_Cube) (v := (y4 : T_cube_Cube)) (b' := (y4 : T_cube_Cube)) ty28 (look_t rfl) (look_t rfl) rfl rfl rfl ?_
        refine Sq.nil ?_
        refine To.next ?_
        refine Wp.seq ?_
        refine Wp.reg ?_
        refine Sq.v (r_load (i := 0) (Lens.id T_cube_Cube) (r := y4) ty28 (look_t rfl) rfl rfl rfl) rfl rfl rfl ?_
        refine Sq.v (r_loadp ty28 (look_t rfl)) rfl rfl rfl ?_
        refine Sq.v (r_neA eqv28 rfl eqg28 rfl (look_t rfl) (look_t rfl)) rfl rfl rfl ?_
        refine Sq.nil ?_
        refine To.next ?_
        refine Wp.cond (look_t rfl) (fun hc => ?_) (fun hc => ?_)
        · replace h := cond_t hc h
          refine Wp.seq ?_
          refine Wp.reg ?_
          refine Sq.v (r_load (i := 0) (Lens.id T_cube_Cube) (r := y4) ty28 (look_t rfl) rfl rfl rfl) rfl rfl rfl ?_
          refine Sq.v (r_move (look_t rfl)) rfl rfl rfl ?_
          obtain ⟨y5, hy5, h⟩ := bind_some h
          refine Sq.v (r_call en68 (ih _ _ _ hy5) ⟨look_t rfl, look_t rfl, trivial⟩) rfl rfl rfl ?_
          refine Sq.v (r_asg (look_t rfl)) rfl rfl rfl ?_
          refine Sq.nil ?_
          refine To.next ?_
          refine Wp.ret ?_
          refine To.ret ?_
          replace h := some_in h
          subst h
          exact To.end1 rfl (rv_t rfl)
        · replace h := cond_f hc h
          refine Wp.skip ?_
          refine To.next ?_
          refine Wp.seq ?_
          refine Wp.reg ?_
          refine Sq.v (r_load (i := 2) (Lens.id (Vector T_api_Value 4)) (r := y3.1) ty26 (look_t rfl) rfl rfl rfl) rfl rfl rfl ?_
          refine Sq.v (r_move (look_t rfl)) rfl rfl rfl ?_
          obtain ⟨y6, hy6, h⟩ := bind_some h
          refine Sq.v (r_call en98 (C_cover_busiest hy6) ⟨look_t rfl, look_t rfl, trivial⟩) rfl rfl rfl ?_
          refine Sq.v (r_asg (look_t rfl)) rfl rfl rfl ?_
          refine Sq.nil ?_
          refine To.next ?_
          refine Wp.seq ?_
          refine Wp.reg ?_
          refine Sq.v (r_loadp ty28 (look_t rfl)) rfl rfl rfl ?_
          refine Sq.v (r_move (look_t rfl)) rfl rfl rfl ?_
          obtain ⟨y7, hy7, h⟩ := bind_some h
          refine Sq.v (r_call en21 (C_cube_Fix hy7) ⟨look_t rfl, look_t rfl, look_bool false, trivial⟩) rfl rfl rfl ?_
          refine Sq.v (r_move (look_t rfl)) rfl rfl rfl ?_
          obtain ⟨y8, hy8, h⟩ := bind_some h
          refine Sq.v (r_call en68 (ih _ _ _ hy8) ⟨look_t rfl, look_t rfl, trivial⟩) rfl rfl rfl ?_
          refine Sq.v (r_move (look_t rfl)) rfl rfl rfl ?_
          refine Sq.g (fun hb => r_loadp ty28 (look_t rfl)) rfl rfl rfl rfl rfl ?_
          refine Sq.g (fun hb => r_move (look_t rfl)) rfl rfl rfl rfl rfl ?_
          obtain ⟨y9, hy9, h⟩ := bind_some h
          refine Sq.g (fun hb => r_call en21 (C_cube_Fix (condM_some hy9 hb)) ⟨look_tc rfl hb, look_tc rfl hb, look_bool true, trivial⟩) rfl rfl rfl rfl rfl ?_
          refine Sq.g (fun hb => r_move (look_t rfl)) rfl rfl rfl rfl rfl ?_
          obtain ⟨y10, hy10, h⟩ := bind_some h
          refine Sq.g (fun hb => r_call en68 (ih _ _ _ (condM_some hy10 hb)) ⟨look_tc rfl hb, look_tc rfl hb, trivial⟩) rfl rfl rfl rfl rfl ?_
          refine Sq.v (r_and (look_t rfl) (look_t rfl) (fun h => h)) rfl rfl rfl ?_
          refine Sq.v (r_asg (look_t rfl)) rfl rfl rfl ?_
          refine Sq.nil ?_
          refine To.next ?_
          refine Wp.ret ?_
          replace h := some_in h
          subst h
          exact To.end1 rfl (rv_t rfl)
theorem C_cover_covered {x0 : T_cube_Cube} {x1 : List T_cube_Cube}  {r : Bool} (h : L_cover_covered x0 x1 = some r) : Meets Try.prog 68 [VP.of (x0), VP.of (x1)] (VP.of (r)) := Cr_cover_covered FUEL x0 x1  r h
set_option maxHeartbeats 2000000 in
theorem C_ref26_Witness {x0 : Vector (BitVec 8) 512} {x1 : List (Vector (BitVec 8) 512)}  {r : (Vector T_api_Value 4) × Bool × Int} (h : L_ref26_Witness x0 x1 = some r) : Meets Try.prog 40 [VP.of (x0), VP.of (x1)] (VP.tup [VP.of (r.1), VP.of (r.2.1), VP.of (r.2.2)]) := by
  unfold L_ref26_Witness at h
  refine Meets.of Try.func40 rfl Try.ntmps40 rfl fun W A => ?_
  refine Wp.seq ?_
  refine Wp.reg ?_
  refine Sq.box (z := (x0 : Vector (BitVec 8) 512)) (look_t rfl) rfl fun p1 => ?_
  refine Sq.alloc zr26 rfl fun p2 => ?_
  refine Sq.v (r_asg (look_bool false)) rfl rfl rfl ?_
  refine Sq.v (r_asg (look_int 0)) rfl rfl rfl ?_
  refine Sq.nil ?_
  refine To.next ?_
  refine Wp.seq ?_
  refine Wp.reg ?_
  refine Sq.v (r_load (i := 1) (Lens.id (Vector (BitVec 8) 512)) (r := x0) ty36 (look_t rfl) rfl rfl rfl) rfl rfl rfl ?_
  refine Sq.v (r_move (look_t rfl)) rfl rfl rfl ?_
  obtain ⟨y1, hy1, h⟩ := bind_some h
  refine Sq.v (r_call en34 (C_ref26_Covered hy1) ⟨look_t rfl, look_t rfl, trivial⟩) rfl rfl rfl ?_
  refine Sq.v (r_move (look_t rfl)) rfl rfl rfl ?_
  refine Sq.v (r_ext (look_t rfl) rfl) rfl rfl rfl ?_
  refine Sq.v (r_ext (look_t rfl) rfl) rfl rfl rfl ?_
  refine Sq.v (r_asg (look_t rfl)) rfl rfl rfl ?_
  refine Sq.v (r_asg (look_t rfl)) rfl rfl rfl ?_
  refine Sq.nil ?_
  refine To.next ?_
  refine Wp.seq ?_
  refine Wp.seq ?_
  refine Wp.reg ?_
  refine Sq.v (r_move (look_t rfl)) rfl rfl rfl ?_
  refine Sq.v (r_neq (look_t rfl) (look_int 0)) rfl rfl rfl ?_
  refine Sq.v (r_move (look_t rfl)) rfl rfl rfl ?_
  refine Sq.g (fun hb => r_move (look_t rfl)) rfl rfl rfl rfl rfl ?_
  refine Sq.v (r_or (look_t rfl) (look_t rfl) (fun h => h)) rfl rfl rfl ?_
  refine Sq.nil ?_
  refine To.next ?_
  refine Wp.cond (look_t rfl) (fun hc => ?_) (fun hc => ?_)
  · replace h := cond_t hc h
    refine Wp.seq ?_
    refine Wp.reg ?_
    refine Sq.v (r_buildA (b := (default : Vector T_api_Value 4)) (sz := 2) rfl Try.underlying26 (by kernel_rfl) zr26 (.nil)) rfl rfl rfl ?_
    refine Sq.v (r_move (look_t rfl)) rfl rfl rfl ?_
    refine Sq.store (i := 0) (Lens.id (Vector T_api_Value 4)) (v := ((default : Vector T_api_Value 4) : Vector T_api_Value 4)) (b' := ((default : Vector T_api_Value 4) : Vector T_api_Value 4)) ty26 (look_t rfl) (look_t rfl) rfl rfl rfl ?_
    refine Sq.v (r_asg (look_bool false)) rfl rfl rfl ?_
    refine Sq.v (r_asg (look_t rfl)) rfl rfl rfl ?_
    refine Sq.nil ?_
    refine To.next ?_
    refine Wp.ret ?_
    refine To.ret ?_
    replace h := some_in h
    subst h
    exact To.end3 rfl (rv_c (i := 0) ty26 rfl rfl) (rv_t rfl) (rv_t rfl)
  · replace h := cond_f hc h
    refine Wp.skip ?_
    refine To.next ?_
    refine Wp.seq ?_
    refine Wp.reg ?_
    refine Sq.v (r_load (i := 1) (Lens.id (Vector (BitVec 8) 512)) (r := x0) ty36 (look_t rfl) rfl rfl rfl) rfl rfl rfl ?_
    refine Sq.v (r_move (look_t rfl)) rfl rfl rfl ?_
    obtain ⟨y2, hy2, h⟩ := bind_some h
    refine Sq.v (r_call en69 (C_ref26_near hy2) ⟨look_t rfl, look_t rfl, trivial⟩) rfl rfl rfl ?_
    refine Sq.v (r_asg (look_t rfl)) rfl rfl rfl ?_
    refine Sq.nil ?_
    refine To.next ?_
    refine Wp.seq ?_
    refine Wp.seq ?_
    refine Wp.reg ?_
    refine Sq.v (r_move (look_int 0)) rfl rfl rfl ?_
    refine Sq.nil ?_
    refine To.next ?_
    refine Wp.block ?_
    obtain ⟨e1, hl, h⟩ := bind_some h
    refine Wp.loopG (σ := Int × (Vector (BitVec 8) 512)) (ε := (Int × Bool × (Vector (BitVec 8) 512))) (γ := Unit) (δ := Unit) hl (fun s1 g1 => [(0, VP.of (x0)), (1, VP.of (y2)), (2, VP.eq (.pointer (some ⟨p1, 0, none⟩))), (4, VP.eq (.pointer (some ⟨p2, 0, none⟩))), (5, VP.of (false)), (6, VP.of (0 : Int)), (7, VP.of (y1.1)), (8, VP.of (y1.2)), (23, VP.of ((y1.2 != 0) || y1.1)), (29, VP.of (s1.1))]) (fun s1 g1 => [⟨some p2, .var ((default : Vector T_api_Value 4) : Vector T_api_Value 4)⟩, ⟨some p1, .var (s1.2 : Vector (BitVec 8) 512)⟩]) (fun q1 => Exit.exit 0) (fun q1 g1 => [(0, VP.of (x0)), (1, VP.of (y2)), (2, VP.eq (.pointer (some ⟨p1, 0, none⟩))), (4, VP.eq (.pointer (some ⟨p2, 0, none⟩))), (5, VP.of (false)), (6, VP.of (0 : Int)), (7, VP.of (y1.1)), (8, VP.of (y1.2)), (23, VP.of ((y1.2 != 0) || y1.1)), (29, VP.of (q1.1)), (30, VP.of (q1.2.1))]) (fun q1 g1 => [⟨some p2, .var ((default : Vector T_api_Value 4) : Vector T_api_Value 4)⟩, ⟨some p1, .var (q1.2.2 : Vector (BitVec 8) 512)⟩]) () rfl (.same rfl (.same rfl (.same rfl (.same rfl (.same rfl (.same rfl (.same rfl (.same rfl (.same rfl (.same rfl .nil)))))))))) (fun s1 r h g1 => ?_) (fun g1 => ?_)
    · clear hl
      refine Wp.seq ?_
      refine Wp.reg ?_
      refine Sq.v (r_lss (look_t rfl) (look_int 512)) rfl rfl rfl ?_
      refine Sq.nil ?_
      refine To.next ?_
      refine Wp.seq ?_
      refine Wp.cond (look_t rfl) (fun hc => ?_) (fun hc => ?_)
      · replace h := cond_t hc h
        refine Wp.skip ?_
        refine To.next ?_
        refine Wp.seq ?_
        refine Wp.block ?_
        refine Wp.seq ?_
        refine Wp.reg ?_
        refine Sq.v (r_move (look_t rfl)) rfl rfl rfl ?_
        refine Sq.v (r_asg (look_t rfl)) rfl rfl rfl ?_
        refine Sq.nil ?_
        refine To.next ?_
        refine Wp.seq ?_
        refine Wp.seq ?_
        refine Wp.reg ?_
        refine Sq.v (r_move (look_t rfl)) rfl rfl rfl ?_
        obtain ⟨k1, hk1, h⟩ := bind_some h
        refine Sq.v (r_ia (k := k1) ar36 (look_t rfl) (look_t rfl) (idx_some hk1)) rfl rfl rfl ?_
        refine Sq.v (r_load (i := 1) ((Lens.id (Vector (BitVec 8) 512)).comp (Lens.idx (α := BitVec 8) 512 k1 (idx_some hk1).1)) (r := vget s1.2 k1) ty5 (look_t rfl) rfl rfl rfl) rfl rfl rfl ?_
        refine Sq.v (r_neq8 (look_t rfl) (look_u8 2 rfl)) rfl rfl rfl ?_
        refine Sq.nil ?_
        refine To.next ?_
        refine Wp.cond (look_t rfl) (fun hc => ?_) (fun hc => ?_)
        · replace h := cond_t hc h
          refine Wp.exit ?_
          refine To.exit ?_
          refine To.bexit ?_
          refine To.next ?_
          refine Wp.reg ?_
          refine Sq.v (r_add (look_t rfl) (look_int 1)) rfl rfl rfl ?_
          refine Sq.v (r_move (look_t rfl)) rfl rfl rfl ?_
          refine Sq.nil ?_
          replace h := some_in h
          subst h
          exact To.roundG () 0 rfl (.same rfl (.same rfl (.same rfl (.same rfl (.same rfl (.same rfl (.same rfl (.same rfl (.same rfl (.same rfl .nil))))))))))
        · replace h := cond_f hc h
          refine Wp.skip ?_
          refine To.next ?_
          refine Wp.seq ?_
          refine Wp.reg ?_
          refine Sq.v (r_move (look_t rfl)) rfl rfl rfl ?_
          obtain ⟨k2, hk2, h⟩ := bind_some h
          refine Sq.v (r_ia (k := k2) ar36 (look_t rfl) (look_t rfl) (idx_some hk2)) rfl rfl rfl ?_
          refine Sq.store (i := 1) ((Lens.id (Vector (BitVec 8) 512)).comp (Lens.idx (α := BitVec 8) 512 k2 (idx_some hk2).1)) (v := (0#8 : BitVec 8)) (b' := (vset s1.2 k2 (0#8) : Vector (BitVec 8) 512)) ty5 (look_t rfl) (look_u8 0 rfl) rfl rfl rfl ?_
          refine Sq.nil ?_
          refine To.next ?_
          refine Wp.seq ?_
          refine Wp.reg ?_
          refine Sq.v (r_asg (look_bool false)) rfl rfl rfl ?_
          refine Sq.nil ?_
          refine To.next ?_
          refine Wp.seq ?_
          refine Wp.seq ?_
          refine Wp.reg ?_
          refine Sq.v (r_move (look_t rfl)) rfl rfl rfl ?_
          refine Sq.v (r_len Try.underlying33 (look_t rfl)) rfl rfl rfl ?_
          refine Sq.v (r_move (look_int 0)) rfl rfl rfl ?_
          refine Sq.nil ?_
          refine To.next ?_
          refine Wp.block ?_
          obtain ⟨e2, hl, h⟩ := bind_some h
          refine Wp.loopG (σ := Bool × Int) (ε := (Bool × Int × Bool)) (γ := Unit) (δ := Unit) hl (fun s2 g2 => [(0, VP.of (x0)), (1, VP.of (y2)), (2, VP.eq (.pointer (some ⟨p1, 0, none⟩))), (4, VP.eq (.pointer (some ⟨p2, 0, none⟩))), (5, VP.of (false)), (6, VP.of (0 : Int)), (7, VP.of (y1.1)), (8, VP.of (y1.2)), (9, VP.of (s1.1)), (10, VP.of (s2.1)), (23, VP.of ((y1.2 != 0) || y1.1)), (29, VP.of (s1.1)), (30, VP.of (decide (s1.1 < 512))), (35, VP.of ((vget s1.2 k1) != (2#8))), (38, VP.of (y2)), (39, VP.of (y2.length : Int)), (40, VP.of (s2.2))]) (fun s2 g2 => [⟨some p2, .var ((default : Vector T_api_Value 4) : Vector T_api_Value 4)⟩, ⟨some p1, .var (vset s1.2 k2 (0#8) : Vector (BitVec 8) 512)⟩]) (fun q2 => Exit.exit 2) (fun q2 g2 => [(0, VP.of (x0)), (1, VP.of (y2)), (2, VP.eq (.pointer (some ⟨p1, 0, none⟩))), (4, VP.eq (.pointer (some ⟨p2, 0, none⟩))), (5, VP.of (false)), (6, VP.of (0 : Int)), (7, VP.of (y1.1)), (8, VP.of (y1.2)), (9, VP.of (s1.1)), (10, VP.of (q2.1)), (23, VP.of ((y1.2 != 0) || y1.1)), (29, VP.of (s1.1)), (30, VP.of (decide (s1.1 < 512))), (35, VP.of ((vget s1.2 k1) != (2#8))), (38, VP.of (y2)), (39, VP.of (y2.length : Int)), (40, VP.of (q2.2.1)), (41, VP.of (q2.2.2))]) (fun q2 g2 => [⟨some p2, .var ((default : Vector T_api_Value 4) : Vector T_api_Value 4)⟩, ⟨some p1, .var (vset s1.2 k2 (0#8) : Vector (BitVec 8) 512)⟩]) () rfl (.same rfl (.same rfl (.same rfl (.same rfl (.same rfl (.same rfl (.same rfl (.same rfl (.same rfl (.same rfl (.same rfl (.same rfl (.same rfl (.same rfl (.same rfl (.same rfl (.same rfl .nil))))))))))))))))) (fun s2 r h g2 => ?_) (fun g2 => ?_)
          · clear hl
            refine Wp.seq ?_
            refine Wp.reg ?_
            refine Sq.v (r_lss (look_t rfl) (look_t rfl)) rfl rfl rfl ?_
            refine Sq.nil ?_
            refine To.next ?_
            refine Wp.seq ?_
            refine Wp.cond (look_t rfl) (fun hc => ?_) (fun hc => ?_)
            · replace h := cond_t hc h
              refine Wp.skip ?_
              refine To.next ?_
              refine Wp.seq ?_
              refine Wp.block ?_
              refine Wp.seq ?_
              refine Wp.reg ?_
              obtain ⟨k3, hk3, h⟩ := bind_some h
              refine Sq.v (r_ias (k := k3) Try.underlying33 ty36 (look_t rfl) (look_t rfl) (idx_some hk3)) rfl rfl rfl ?_
              refine Sq.v (r_loadp ty36 (look_t rfl)) rfl rfl rfl ?_
              refine Sq.alloc zr36 rfl fun p3 => ?_
              refine Sq.store (i := 0) (Lens.id (Vector (BitVec 8) 512)) (v := (lget y2 k3 : Vector (BitVec 8) 512)) (b' := (lget y2 k3 : Vector (BitVec 8) 512)) ty36 (look_t rfl) (look_t rfl) rfl rfl rfl ?_
              refine Sq.nil ?_
              refine To.next ?_
              refine Wp.reg ?_
              refine Sq.v (r_move (look_t rfl)) rfl rfl rfl ?_
              refine Sq.v (r_move (look_t rfl)) rfl rfl rfl ?_
              refine Sq.g (fun hb => r_move (look_t rfl)) rfl rfl rfl rfl rfl ?_
              obtain ⟨k4, hk4, h⟩ := bind_some h
              refine Sq.g (fun hb => r_ia (k := k4) ar36 (look_t rfl) (look_tc rfl hb) (idx_some (condM_some hk4 hb))) rfl rfl rfl rfl rfl ?_
              refine Sq.g (fun hb => r_load (i := 0) ((Lens.id (Vector (BitVec 8) 512)).comp (Lens.idx (α := BitVec 8) 512 k4 (idx_some (condM_some hk4 hb)).1)) (r := vget (lget y2 k3) k4) ty5 (look_tc rfl hb) rfl rfl rfl) rfl rfl rfl rfl rfl ?_
              refine Sq.g (fun hb => r_neq8 (look_tc rfl hb) (look_u8 2 rfl)) rfl rfl rfl rfl rfl ?_
              refine Sq.v (r_or (look_t rfl) (look_t rfl) (fun h => h)) rfl rfl rfl ?_
              refine Sq.v (r_asg (look_t rfl)) rfl rfl rfl ?_
              refine Sq.nil ?_
              refine To.bnorm ?_
              refine To.next ?_
              refine Wp.reg ?_
              refine Sq.v (r_add (look_t rfl) (look_int 1)) rfl rfl rfl ?_
              refine Sq.v (r_move (look_t rfl)) rfl rfl rfl ?_
              refine Sq.nil ?_
              replace h := some_in h
              subst h
              exact To.roundG () 1 rfl (.same rfl (.same rfl (.same rfl (.same rfl (.same rfl (.same rfl (.same rfl (.same rfl (.same rfl (.same rfl (.same rfl (.same rfl (.same rfl (.same rfl (.same rfl (.same rfl (.same rfl .nil)))))))))))))))))
            · replace h := cond_f hc h
              refine Wp.exit ?_
              refine To.exit ?_
              replace h := some_in h
              subst h
              exact To.leaveG () 0 rfl (by simp) rfl (.same rfl (.same rfl (.same rfl (.same rfl (.same rfl (.same rfl (.same rfl (.same rfl (.same rfl (.same rfl (.same rfl (.same rfl (.same rfl (.same rfl (.same rfl (.same rfl (.same rfl (.same rfl .nil))))))))))))))))))
          · clear hl
            refine To.bexit ?_
            refine To.next ?_
            refine Wp.seq ?_
            refine Wp.reg ?_
            refine Sq.v (r_move (look_t rfl)) rfl rfl rfl ?_
            refine Sq.v (r_move (look_t rfl)) rfl rfl rfl ?_
            refine Sq.g (fun hb => r_load (i := 1) (Lens.id (Vector (BitVec 8) 512)) (r := (vset s1.2 k2 (0#8))) ty36 (look_t rfl) rfl rfl rfl) rfl rfl rfl rfl rfl ?_
            refine Sq.g (fun hb => r_move (look_t rfl)) rfl rfl rfl rfl rfl ?_
            obtain ⟨y3, hy3, h⟩ := bind_some h
            refine Sq.g (fun hb => r_call en70 (C_ref26_covered (condM_some hy3 hb)) ⟨look_tc rfl hb, look_tc rfl hb, trivial⟩) rfl rfl rfl rfl rfl ?_
            refine Sq.v (r_and (look_t rfl) (look_t rfl) (fun h => h)) rfl rfl rfl ?_
            refine Sq.nil ?_
            refine To.next ?_
            obtain ⟨m1, hm1, h⟩ := bind_some h
            refine Wp.condM (γ := Unit) (fun g3 => [(0, VP.of (x0)), (1, VP.of (y2)), (2, VP.eq (.pointer (some ⟨p1, 0, none⟩))), (4, VP.eq (.pointer (some ⟨p2, 0, none⟩))), (5, VP.of (false)), (6, VP.of (0 : Int)), (7, VP.of (y1.1)), (8, VP.of (y1.2)), (9, VP.of (s1.1)), (10, VP.of (e2.1)), (23, VP.of ((y1.2 != 0) || y1.1)), (29, VP.of (s1.1)), (30, VP.of (decide (s1.1 < 512))), (35, VP.of ((vget s1.2 k1) != (2#8))), (38, VP.of (y2)), (39, VP.of (y2.length : Int)), (40, VP.of (e2.2.1)), (41, VP.of (e2.2.2)), (57, VP.of (e2.1 && y3))]) (fun g3 => [⟨some p2, .var ((default : Vector T_api_Value 4) : Vector T_api_Value 4)⟩, ⟨some p1, .var (m1 : Vector (BitVec 8) 512)⟩]) (look_t rfl) (fun g3 => ?_) (fun hm hc => ?_) (fun hm hc => ?_)
            · clear hm1
              refine To.bnorm ?_
              refine To.next ?_
              refine Wp.reg ?_
              refine Sq.v (r_add (look_t rfl) (look_int 1)) rfl rfl rfl ?_
              refine Sq.v (r_move (look_t rfl)) rfl rfl rfl ?_
              refine Sq.nil ?_
              replace h := some_in h
              subst h
              exact To.roundG () 0 rfl (.same rfl (.same rfl (.same rfl (.same rfl (.same rfl (.same rfl (.same rfl (.same rfl (.same rfl (.same rfl .nil))))))))))
            · have h := cond_t hc hm1
              refine Wp.reg ?_
              refine Sq.v (r_move (look_t rfl)) rfl rfl rfl ?_
              obtain ⟨k5, hk5, h⟩ := bind_some h
              refine Sq.v (r_ia (k := k5) ar36 (look_t rfl) (look_t rfl) (idx_some hk5)) rfl rfl rfl ?_
              refine Sq.store (i := 1) ((Lens.id (Vector (BitVec 8) 512)).comp (Lens.idx (α := BitVec 8) 512 k5 (idx_some hk5).1)) (v := (1#8 : BitVec 8)) (b' := (vset (vset s1.2 k2 (0#8)) k5 (1#8) : Vector (BitVec 8) 512)) ty5 (look_t rfl) (look_u8 1 rfl) rfl rfl rfl ?_
              refine Sq.nil ?_
              replace h := some_in h
              subst h
              exact To.meet 0 rfl (.same rfl (.same rfl (.same rfl (.same rfl (.same rfl (.same rfl (.same rfl (.same rfl (.same rfl (.same rfl (.same rfl (.same rfl (.same rfl (.same rfl (.same rfl (.same rfl (.same rfl (.same rfl (.same rfl .nil))))))))))))))))))) (hm ())
            · have h := cond_f hc hm1
              refine Wp.skip ?_
              replace h := some_in h
              subst h
              exact To.meet 0 rfl (.same rfl (.same rfl (.same rfl (.same rfl (.same rfl (.same rfl (.same rfl (.same rfl (.same rfl (.same rfl (.same rfl (.same rfl (.same rfl (.same rfl (.same rfl (.same rfl (.same rfl (.same rfl (.same rfl .nil))))))))))))))))))) (hm ())
      · replace h := cond_f hc h
        refine Wp.exit ?_
        refine To.exit ?_
        replace h := some_in h
        subst h
        exact To.leaveG () 0 rfl (by simp) rfl (.same rfl (.same rfl (.same rfl (.same rfl (.same rfl (.same rfl (.same rfl (.same rfl (.same rfl (.same rfl (.same rfl .nil)))))))))))
    · clear hl
      refine To.bexit ?_
      refine To.next ?_
      refine Wp.seq ?_
      refine Wp.reg ?_
      refine Sq.v (r_load (i := 1) (Lens.id (Vector (BitVec 8) 512)) (r := e1.2.2) ty36 (look_t rfl) rfl rfl rfl) rfl rfl rfl ?_
      obtain ⟨y4, hy4, h⟩ := bind_some h
      refine Sq.v (r_call en71 (C_ref26_point hy4) ⟨look_t rfl, trivial⟩) rfl rfl rfl ?_
      refine Sq.store (i := 0) (Lens.id (Vector T_api_Value 4)) (v := (y4 : Vector T_api_Value 4)) (b' := (y4 : Vector T_api_Value 4)) ty26 (look_t rfl) (look_t rfl) rfl rfl rfl ?_
      refine Sq.v (r_asg (look_bool true)) rfl rfl rfl ?_
      refine Sq.v (r_asg (look_int 0)) rfl rfl rfl ?_
      refine Sq.nil ?_
      refine To.next ?_
      refine Wp.ret ?_
      replace h := some_in h
      subst h
      exact To.end3 rfl (rv_c (i := 0) ty26 rfl rfl) (rv_t rfl) (rv_t rfl)
set_option maxHeartbeats 2000000 in
theorem C_law25_begun   {r : Bool} (h : L_law25_begun  = some r) : Meets Try.prog 19 [] (VP.of (r)) := by
  unfold L_law25_begun at h
  refine Meets.of Try.func19 rfl Try.ntmps19 rfl fun W A => ?_
  refine Wp.seq ?_
  refine Wp.reg ?_
  refine Sq.v (r_asg (look_bool false)) rfl rfl rfl ?_
  refine Sq.nil ?_
  refine To.next ?_
  refine Wp.seq ?_
  refine Wp.reg ?_
  refine Sq.v (r_build (b := { (default : T_api_Value) with f_Lo := 3#64 }) rfl bu24 zr24 (.cons le_T_api_Value_Lo rfl (look_u64 3 rfl) rfl (.nil))) rfl rfl rfl ?_
  obtain ⟨z1, hz1, h⟩ := bind_some h
  refine Sq.v ((r_buildA (b := vset (default : Vector T_api_Value 4) 0 ({ (default : T_api_Value) with f_Lo := 3#64 })) (sz := 2) rfl Try.underlying26 (by kernel_rfl) zr26 (.cons (Lens.idx 4 0 (by decide)) rfl (look_t rfl) rfl (.nil))).as (some_in hz1)) rfl rfl rfl ?_
  refine Sq.v (r_build (b := { (default : T_api_Value) with f_Lo := 1#64 }) rfl bu24 zr24 (.cons le_T_api_Value_Lo rfl (look_u64 1 rfl) rfl (.nil))) rfl rfl rfl ?_
  obtain ⟨z2, hz2, h⟩ := bind_some h
  refine Sq.v ((r_buildA (b := vset (default : Vector T_api_Value 4) 0 ({ (default : T_api_Value) with f_Lo := 1#64 })) (sz := 2) rfl Try.underlying26 (by kernel_rfl) zr26 (.cons (Lens.idx 4 0 (by decide)) rfl (look_t rfl) rfl (.nil))).as (some_in hz2)) rfl rfl rfl ?_
  refine Sq.v (r_build (b := { f_Mask := z1, f_Value := z2 : T_cube_Cube }) rfl bu28 zr28 (.cons le_T_cube_Cube_Mask rfl (look_t rfl) rfl (.cons le_T_cube_Cube_Value rfl (look_t rfl) rfl (.nil)))) rfl rfl rfl ?_
  refine Sq.alloc zr28 rfl fun p1 => ?_
  refine Sq.store (i := 0) (Lens.id T_cube_Cube) (v := ({ f_Mask := z1, f_Value := z2 : T_cube_Cube } : T_cube_Cube)) (b' := ({ f_Mask := z1, f_Value := z2 : T_cube_Cube } : T_cube_Cube)) ty28 (look_t rfl) (look_t rfl) rfl rfl rfl ?_
  refine Sq.nil ?_
  refine To.next ?_
  refine Wp.seq ?_
  refine Wp.reg ?_
  refine Sq.v (r_build (b := (default : T_cube_Cube)) rfl bu28 zr28 (.nil)) rfl rfl rfl ?_
  refine Sq.v (r_load (i := 0) (Lens.id T_cube_Cube) (r := ({ f_Mask := z1, f_Value := z2 : T_cube_Cube })) ty28 (look_t rfl) rfl rfl rfl) rfl rfl rfl ?_
  obtain ⟨y1, hy1, h⟩ := bind_some h
  refine Sq.v (r_call en15 (C_cube_Minus hy1) ⟨look_t rfl, look_t rfl, trivial⟩) rfl rfl rfl ?_
  refine Sq.v (r_asg (look_t rfl)) rfl rfl rfl ?_
  refine Sq.nil ?_
  refine To.next ?_
  refine Wp.seq ?_
  refine Wp.reg ?_
  refine Sq.v (r_move (look_t rfl)) rfl rfl rfl ?_
  refine Sq.v (r_len Try.underlying31 (look_t rfl)) rfl rfl rfl ?_
  refine Sq.v (r_eql (look_t rfl) (look_int 2)) rfl rfl rfl ?_
  refine Sq.v (r_move (look_t rfl)) rfl rfl rfl ?_
  refine Sq.g (fun hb => r_load (i := 0) (Lens.id T_cube_Cube) (r := ({ f_Mask := z1, f_Value := z2 : T_cube_Cube })) ty28 (look_t rfl) rfl rfl rfl) rfl rfl rfl rfl rfl ?_
  obtain ⟨y2, hy2, h⟩ := bind_some h
  refine Sq.g (fun hb => r_call en30 (C_cube_Free (condM_some hy2 hb)) ⟨look_tc rfl hb, trivial⟩) rfl rfl rfl rfl rfl ?_
  refine Sq.g (fun hb => r_eql (look_tc rfl hb) (look_int 510)) rfl rfl rfl rfl rfl ?_
  refine Sq.v (r_and (look_t rfl) (look_t rfl) (fun h => h)) rfl rfl rfl ?_
  refine Sq.v (r_move (look_t rfl)) rfl rfl rfl ?_
  refine Sq.g (fun hb => r_move (look_t rfl)) rfl rfl rfl rfl rfl ?_
  obtain ⟨k1, hk1, h⟩ := bind_some h
  refine Sq.g (fun hb => r_ias (k := k1) Try.underlying31 ty28 (look_tc rfl hb) (look_int 1) (idx_some (condM_some hk1 hb))) rfl rfl rfl rfl rfl ?_
  refine Sq.g (fun hb => r_loadp ty28 (look_tc rfl hb)) rfl rfl rfl rfl rfl ?_
  obtain ⟨y3, hy3, h⟩ := bind_some h
  refine Sq.g (fun hb => r_call en30 (C_cube_Free (condM_some hy3 hb)) ⟨look_tc rfl hb, trivial⟩) rfl rfl rfl rfl rfl ?_
  refine Sq.g (fun hb => r_eql (look_tc rfl hb) (look_int 510)) rfl rfl rfl rfl rfl ?_
  refine Sq.v (r_and (look_t rfl) (look_t rfl) (fun h => h)) rfl rfl rfl ?_
  refine Sq.v (r_asg (look_t rfl)) rfl rfl rfl ?_
  refine Sq.nil ?_
  refine To.next ?_
  refine Wp.ret ?_
  replace h := some_in h
  subst h
  exact To.end1 rfl (rv_t rfl)
set_option maxHeartbeats 2000000 in
theorem C_cover_Covered {x0 : T_cube_Cube} {x1 : List T_cube_Cube}  {r : Bool × Int} (h : L_cover_Covered x0 x1 = some r) : Meets Try.prog 33 [VP.of (x0), VP.of (x1)] (VP.tup [VP.of (r.1), VP.of (r.2)]) := by
  unfold L_cover_Covered at h
  refine Meets.of Try.func33 rfl Try.ntmps33 rfl fun W A => ?_
  refine Wp.seq ?_
  refine Wp.reg ?_
  refine Sq.box (z := (x0 : T_cube_Cube)) (look_t rfl) rfl fun p1 => ?_
  refine Sq.v (r_asg (look_bool false)) rfl rfl rfl ?_
  refine Sq.v (r_asg (look_int 0)) rfl rfl rfl ?_
  refine Sq.nil ?_
  refine To.next ?_
  refine Wp.seq ?_
  refine Wp.reg ?_
  refine Sq.v (r_load (i := 0) (Lens.id T_cube_Cube) (r := x0) ty28 (look_t rfl) rfl rfl rfl) rfl rfl rfl ?_
  refine Sq.v (r_move (look_t rfl)) rfl rfl rfl ?_
  obtain ⟨y1, hy1, h⟩ := bind_some h
  refine Sq.v (r_call en67 (C_cover_near hy1) ⟨look_t rfl, look_t rfl, trivial⟩) rfl rfl rfl ?_
  refine Sq.v (r_asg (look_t rfl)) rfl rfl rfl ?_
  refine Sq.nil ?_
  refine To.next ?_
  refine Wp.seq ?_
  refine Wp.seq ?_
  refine Wp.reg ?_
  refine Sq.v (r_move (look_t rfl)) rfl rfl rfl ?_
  refine Sq.v (r_len Try.underlying31 (look_t rfl)) rfl rfl rfl ?_
  refine Sq.v (r_gtr (look_t rfl) (look_int 16)) rfl rfl rfl ?_
  refine Sq.nil ?_
  refine To.next ?_
  refine Wp.cond (look_t rfl) (fun hc => ?_) (fun hc => ?_)
  · replace h := cond_t hc h
    refine Wp.seq ?_
    refine Wp.reg ?_
    refine Sq.v (r_asg (look_bool false)) rfl rfl rfl ?_
    refine Sq.v (r_asg (look_int 26)) rfl rfl rfl ?_
    refine Sq.nil ?_
    refine To.next ?_
    refine Wp.ret ?_
    refine To.ret ?_
    replace h := some_in h
    subst h
    exact To.end2 rfl (rv_t rfl) (rv_t rfl)
  · replace h := cond_f hc h
    refine Wp.skip ?_
    refine To.next ?_
    refine Wp.seq ?_
    refine Wp.reg ?_
    refine Sq.v (r_load (i := 0) (Lens.id T_cube_Cube) (r := x0) ty28 (look_t rfl) rfl rfl rfl) rfl rfl rfl ?_
    refine Sq.v (r_move (look_t rfl)) rfl rfl rfl ?_
    obtain ⟨y2, hy2, h⟩ := bind_some h
    refine Sq.v (r_call en68 (C_cover_covered hy2) ⟨look_t rfl, look_t rfl, trivial⟩) rfl rfl rfl ?_
    refine Sq.v (r_asg (look_t rfl)) rfl rfl rfl ?_
    refine Sq.v (r_asg (look_int 0)) rfl rfl rfl ?_
    refine Sq.nil ?_
    refine To.next ?_
    refine Wp.ret ?_
    replace h := some_in h
    subst h
    exact To.end2 rfl (rv_t rfl) (rv_t rfl)
end Go.Proofs.Ytabodolbdalimaa
