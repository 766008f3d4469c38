/-
  Printed by the decompiler (dec.py) out of the seat's translation. Each function meets its functional program. Conditions: none.
-/
import Derived.Test.YtodajdohokmjnaaDc0
import Derived.Test.YtodajdohokmjnaaDc1
import Derived.Test.YtodajdohokmjnaaDc4
import Derived.Test.YtodajdohokmjnaaDc5
namespace Go.Proofs.Ytodajdohokmjnaa
open Go Gv
set_option linter.unusedVariables false
set_option linter.unusedSimpArgs false
set_option maxRecDepth 100000
set_option maxHeartbeats 2000000
theorem Cr_cover_covered (n : Nat) : ∀ (x0 : T_cube_Cube) (x1 : List T_cube_Cube)  (r : Bool), Lr_cover_covered n x0 x1 = some r → Meets Try.prog 132 [VP.of (x0), VP.of (x1)] (VP.of (r)) := by
  induction n with
  | zero => intro x0 x1  r h; simp [Lr_cover_covered] at h
  | succ n ih =>
    intro x0 x1  r h
    simp only [Lr_cover_covered] at h
    refine Meets.of Try.func132 rfl Try.ntmps132 rfl fun W A => ?_
    refine Qsr ?_
    refine Qbx fun p1 => ?_
    refine Qa ?_
    refine Qnr ?_
    refine Ql0 0 ty185 ?_
    refine Qm ?_
    obtain ⟨y1,hy1,h⟩:=Qbs h
    refine Qcl en131 (C_cover_near hy1) ?_
    refine Qa ?_
    refine Qns ?_
    refine Qsr ?_
    refine Qm ?_
    refine Sq.share (α := T_cube_Cube) 0 2 rfl rfl ?_
    refine Qv (r_clo1 (F := (fun a0 => L_cover_covered_fn1 a0 x0)) (τs := [VP.ptr x0]) en165 ⟨look_t rfl, trivial⟩ (fun _ _ h => C_cover_covered_fn1 h)) ?_
    obtain ⟨y2,hy2,h⟩:=Qbs h
    refine Qcl en164 (C_slices_ContainsFunc_cube_Cube hy2) ?_
    refine Qnx ?_
    refine Qcd h (fun h=>?_) fun h=>?_
    ·refine Qsr ?_
     refine Qa ?_
     refine Qnx ?_
     refine Wp.ret ?_
     refine To.ret ?_
     obtain rfl:=some_in h
     exact Qe1
    ·refine Qkn ?_
     refine Wp.seq ?_
     refine Qsr ?_
     refine Qm ?_
     refine Q1 (r_len Try.underlying186) ?_
     refine Q2 r_eql ?_
     refine Qnx ?_
     refine Qcd h (fun h=>?_) fun h=>?_
     ·refine Qsr ?_
      refine Qa ?_
      refine Qnx ?_
      refine Wp.ret ?_
      refine To.ret ?_
      obtain rfl:=some_in h
      exact Qe1
     ·refine Qkn ?_
      refine Qsr ?_
      refine Q1 (r_loadp ty185) ?_
      refine Qm ?_
      obtain ⟨y3,hy3,h⟩:=Qbs h
      refine Qcl en167 (C_cover_wanted hy3) ?_
      refine Qm ?_
      refine Qxt ?_
      refine Qxt ?_
      refine Qal zr81 fun p2 => ?_
      refine Qal zr81 fun p3 => ?_
      refine Qs0 1 ty81 ?_
      refine Qs0 0 ty81 ?_
      refine Qns ?_
      refine Qsr ?_
      refine Q1 (r_loadp ty185) ?_
      refine Ql0 1 ty81 ?_
      refine Ql0 0 ty81 ?_
      obtain ⟨y4,hy4,h⟩:=Qbs h
      refine Qcl en168 (C_cover_escape hy4) ?_
      refine Qal zr185 fun p4 => ?_
      refine Qs0 0 ty185 ?_
      refine Qnr ?_
      refine Ql0 0 ty185 ?_
      refine Q1 (r_loadp ty185) ?_
      refine Q2 (r_neA eqv185 rfl eqg185 rfl) ?_
      refine Qnx ?_
      refine Qcd h (fun h=>?_) fun h=>?_
      ·refine Qsr ?_
       refine Ql0 0 ty185 ?_
       refine Qm ?_
       obtain ⟨y5,hy5,h⟩:=Qbs h
       refine Qcl en132 (ih _ _ _ hy5) ?_
       refine Qa ?_
       refine Qnx ?_
       refine Wp.ret ?_
       refine To.ret ?_
       obtain rfl:=some_in h
       exact Qe1
      ·refine Qkn ?_
       refine Qsr ?_
       refine Ql0 2 ty81 ?_
       refine Qm ?_
       obtain ⟨y6,hy6,h⟩:=Qbs h
       refine Qcl en169 (C_cover_busiest hy6) ?_
       refine Qa ?_
       refine Qnr ?_
       refine Q1 (r_loadp ty185) ?_
       refine Qm ?_
       obtain ⟨y7,hy7,h⟩:=Qbs h
       refine Qcl en133 (C_cube_Fix hy7) ?_
       refine Qm ?_
       obtain ⟨y8,hy8,h⟩:=Qbs h
       refine Qcl en132 (ih _ _ _ hy8) ?_
       refine Qm ?_
       refine Qg1 (r_loadp ty185) ?_
       refine Qg1 r_move ?_
       obtain ⟨y9,hy9,h⟩:=Qbs h
       refine Qg (fun hb => r_call en133 (C_cube_Fix (condM_some hy9 hb)) ⟨look_tc rfl hb, look_tc rfl hb, look_bool true, trivial⟩) ?_
       refine Qg1 r_move ?_
       obtain ⟨y10,hy10,h⟩:=Qbs h
       refine Qg (fun hb => r_call en132 (ih _ _ _ (condM_some hy10 hb)) ⟨look_tc rfl hb, look_tc rfl hb, trivial⟩) ?_
       refine Qan ?_
       refine Qa ?_
       refine Qnx ?_
       refine Wp.ret ?_
       obtain rfl:=some_in h
       exact Qe1
theorem C_cover_covered {x0 : T_cube_Cube} {x1 : List T_cube_Cube}  {r : Bool} (h : L_cover_covered x0 x1 = some r) : Meets Try.prog 132 [VP.of (x0), VP.of (x1)] (VP.of (r)) := Cr_cover_covered FUEL x0 x1  r h
theorem C_shadow_winners_fn1 {x1 : List T_api_Installed} {x2 : T_api_Schema} {x3 : T_api_Installed} : MeetsI Try.prog 159 [VP.ptr x1, VP.ptr x2, VP.ptr x3] [] (fun v : T_cube_Cube => VP.of v) (fun {σ ε} => L_shadow_winners_fn1 (σ := σ) (ε := ε) x1 x2 x3) := by
 refine MeetsI.of Try.func159 rfl Try.ntmps159 rfl ?_
 intro σ ε γ Ls Lx step s0 g0 r h W A u hY
 replace h : L_shadow_winners_fn1 x1 x2 x3 step s0 = some r := h
 unfold L_shadow_winners_fn1 at h
 refine Qsr ?_
 refine Q1 (r_loadp ty84) ?_
 refine Q1 (r_len Try.underlying84) ?_
 refine Qm ?_
 refine Qnx ?_
 refine Wp.block ?_
 obtain ⟨e1,hl,h⟩:=Qbs h
 refine Wp.loopG (σ := Int × (σ)) (ε := (Int × Bool × (σ)) ⊕ (Bool × Int × Bool × Bool × Bool × (ε))) (γ := γ) (δ := γ) hl (fun s1 g1 => [(0, VP.eq u), (1, VP.ptr x1), (2, VP.ptr x2), (3, VP.ptr x3), (9, VP.of (x1)), (10, VP.of (x1.length : Int)), (11, VP.of (s1.1))]) (fun s1 g1 => (Ls s1.2 g1)) (fun q1 => Sum.elim (fun q1 => Exit.exit 0) (fun q1 => Exit.ret) q1) (fun q1 g1 => Sum.elim (fun q1 => [(0, VP.eq u), (1, VP.ptr x1), (2, VP.ptr x2), (3, VP.ptr x3), (9, VP.of (x1)), (10, VP.of (x1.length : Int)), (11, VP.of (q1.1)), (12, VP.of (q1.2.1))]) (fun q1 => [(0, VP.eq u), (1, VP.ptr x1), (2, VP.ptr x2), (3, VP.ptr x3), (8, VP.of (q1.1)), (9, VP.of (x1)), (10, VP.of (x1.length : Int)), (11, VP.of (q1.2.1)), (12, VP.of (q1.2.2.1)), (19, VP.of (q1.2.2.2.1)), (33, VP.of (q1.2.2.2.2.1))]) q1) (fun q1 g1 => Sum.elim (fun q1 => (Ls q1.2.2 g1)) (fun q1 => (Lx q1.2.2.2.2.2 g1)) q1) g0 rfl (.same rfl (.same rfl (.same rfl (.same rfl (.same rfl (.same rfl (.same rfl .nil))))))) (fun s1 r h g1 => ?_) (fun g1 => ?_)
 ·clear hl
  refine Qsr ?_
  refine Q2 r_lss ?_
  refine Qns ?_
  refine Qcd h (fun h=>?_) fun h=>?_
  ·refine Qkn ?_
   refine Wp.seq ?_
   refine Wp.block ?_
   refine Qsr ?_
   obtain ⟨k1,hk1,h⟩:=Qbs h
   refine Qix hk1 Try.underlying84 ty92 ?_
   refine Q1 (r_loadp ty92) ?_
   refine Qal zr92 fun p1 => ?_
   refine Qs0 0 ty92 ?_
   refine Qns ?_
   refine Qsr ?_
   refine Q1 (r_loadp ty33) ?_
   refine Ql0 0 ty92 ?_
   refine Q1 (r_loadp ty92) ?_
   obtain ⟨y1,hy1,h⟩:=Qbs h
   refine Qcl en119 (C_entry_Beats hy1) ?_
   refine Q1 r_not ?_
   refine Qnx ?_
   refine Qcd h (fun h=>?_) fun h=>?_
   ·refine Wp.exit ?_
    refine To.exit ?_
    refine To.bexit ?_
    refine To.next ?_
    refine Wp.reg ?_
    refine Q2 r_add ?_
    refine Qm ?_
    refine Sq.nil ?_
    obtain rfl:=some_in h
    exact Qrd g1 1
   ·refine Qkn ?_
    refine Qsr ?_
    refine Q1 (r_loadp ty33) ?_
    refine Q1 (r_fa fd92_0) ?_
    refine Qld 0 le_T_api_Installed_Entry ty89 ?_
    obtain ⟨y2,hy2,h⟩:=Qbs h
    refine Qcl en129 (C_cube_Of hy2) ?_
    refine Qm ?_
    refine Qxt ?_
    refine Qxt ?_
    refine Qal zr185 fun p2 => ?_
    refine Qs0 0 ty185 ?_
    refine Qa ?_
    refine Qnr ?_
    refine Qm ?_
    refine Qm ?_
    refine Qg1 r_move ?_
    refine Qg (fun hb => r_load (i := 0) (Lens.id T_cube_Cube) (r := y2.1) ty185 (look_t rfl) rfl rfl rfl) ?_
    refine Sq.cases y2.2 (fun hb => ?_) (fun hb => ?_)
    ·replace h := cond_t hb h
     obtain ⟨y3,hy3,h⟩:=Qbs h
     refine Sq.yieldT (Lin := [⟨some p2, .var (y2.1 : T_cube_Cube)⟩, ⟨some p1, .var (lget x1 k1 : T_api_Installed)⟩]) (Ls := Ls) (Lx := Lx) (step := step) (s := s1.2) (gg := g1) rfl hY hb rfl rfl rfl (look_tc rfl hb) hy3 rfl (fun s2 hr g2 => ?_) (fun q2 hr g2 => ?_)
     ·subst hr; simp only [Sum.elim_inl] at h
      refine Sq.eqL (L2 := (⟨some p2, .var (y2.1 : T_cube_Cube)⟩ :: ⟨some p1, .var (lget x1 k1 : T_api_Installed)⟩ :: Ls s2 g2)) rfl ?_
      refine Qg1 r_not ?_
      refine Qan ?_
      refine Qnx ?_
      refine Wp.condF (look_t rfl) (by first | rfl | (rw [hb]; rfl)) ?_
      refine Wp.skip ?_
      refine To.bnorm ?_
      refine To.next ?_
      refine Wp.reg ?_
      refine Q2 r_add ?_
      refine Qm ?_
      refine Sq.nil ?_
      obtain rfl:=some_in h
      exact Qrd g2 2
     ·subst hr; simp only [Sum.elim_inr] at h
      refine Sq.eqL (L2 := (⟨some p2, .var (y2.1 : T_cube_Cube)⟩ :: ⟨some p1, .var (lget x1 k1 : T_api_Installed)⟩ :: Lx q2 g2)) rfl ?_
      refine Qg1 r_not ?_
      refine Qan ?_
      refine Qnx ?_
      refine Wp.condT (look_t rfl) (by first | rfl | (rw [hb]; rfl)) ?_
      refine Wp.ret ?_
      refine To.bret ?_
      refine To.ret ?_
      obtain rfl:=some_in h
      exact Qlv g2 2
    ·replace h := cond_f hb h
     refine Sq.skipG (.of false) hb rfl rfl rfl rfl rfl ?_
     refine Qg1 r_not ?_
     refine Qan ?_
     refine Qnx ?_
     refine Wp.condF (look_t rfl) (by first | rfl | (rw [hb]; rfl)) ?_
     refine Wp.skip ?_
     refine To.bnorm ?_
     refine To.next ?_
     refine Wp.reg ?_
     refine Q2 r_add ?_
     refine Qm ?_
     refine Sq.nil ?_
     obtain rfl:=some_in h
     exact Qrd g1 2
  ·refine Wp.exit ?_
   refine To.exit ?_
   obtain rfl:=some_in h
   exact Qlv g1 0
 ·clear hl
  rcases e1 with e1 | e1
  ·simp only [Sum.elim_inl] at h
   refine To.bexit ?_
   refine To.endn ?_
   obtain rfl:=some_in h
   exact To.endO0 g1 (.refl _) rfl rfl
  ·simp only [Sum.elim_inr] at h
   refine To.bret ?_
   obtain rfl:=some_in h
   exact To.endO0 g1 (.refl _) rfl rfl
theorem C_cover_Covered {x0 : T_cube_Cube} {x1 : List T_cube_Cube}  {r : Bool × Int} (h : L_cover_Covered x0 x1 = some r) : Meets Try.prog 91 [VP.of (x0), VP.of (x1)] (VP.tup [VP.of (r.1), VP.of (r.2)]) := by
 unfold L_cover_Covered at h
 refine Meets.of Try.func91 rfl Try.ntmps91 rfl fun W A => ?_
 refine Qsr ?_
 refine Qbx fun p1 => ?_
 refine Qa ?_
 refine Qa ?_
 refine Qnr ?_
 refine Ql0 0 ty185 ?_
 refine Qm ?_
 obtain ⟨y1,hy1,h⟩:=Qbs h
 refine Qcl en131 (C_cover_near hy1) ?_
 refine Qa ?_
 refine Qns ?_
 refine Qsr ?_
 refine Qm ?_
 refine Q1 (r_len Try.underlying186) ?_
 refine Q2 r_gtr ?_
 refine Qnx ?_
 refine Qcd h (fun h=>?_) fun h=>?_
 ·refine Qsr ?_
  refine Qa ?_
  refine Qa ?_
  refine Qnx ?_
  refine Wp.ret ?_
  refine To.ret ?_
  obtain rfl:=some_in h
  exact Qe2
 ·refine Qkn ?_
  refine Qsr ?_
  refine Ql0 0 ty185 ?_
  refine Qm ?_
  obtain ⟨y2,hy2,h⟩:=Qbs h
  refine Qcl en132 (C_cover_covered hy2) ?_
  refine Qa ?_
  refine Qa ?_
  refine Qnx ?_
  refine Wp.ret ?_
  obtain rfl:=some_in h
  exact Qe2
theorem C_cover_Witness {x0 : T_cube_Cube} {x1 : List T_cube_Cube}  {r : (Vector T_api_Value 4) × Bool × Int} (h : L_cover_Witness x0 x1 = some r) : Meets Try.prog 92 [VP.of (x0), VP.of (x1)] (VP.tup [VP.of (r.1), VP.of (r.2.1), VP.of (r.2.2)]) := by
 unfold L_cover_Witness at h
 refine Meets.of Try.func92 rfl Try.ntmps92 rfl fun W A => ?_
 refine Qsr ?_
 refine Qbx fun p1 => ?_
 refine Qal zr81 fun p2 => ?_
 refine Qa ?_
 refine Qa ?_
 refine Qnr ?_
 refine Ql0 1 ty185 ?_
 refine Qm ?_
 obtain ⟨y1,hy1,h⟩:=Qbs h
 refine Qcl en131 (C_cover_near hy1) ?_
 refine Qa ?_
 refine Qns ?_
 refine Qsr ?_
 refine Qm ?_
 refine Q1 (r_len Try.underlying186) ?_
 refine Q2 r_gtr ?_
 refine Qnx ?_
 refine Qcd h (fun h=>?_) fun h=>?_
 ·refine Qsr ?_
  refine Qv (r_buildA (b := (default : Vector T_api_Value 4)) (sz := 2) rfl Try.underlying81 (by kernel_rfl) zr81 (.nil)) ?_
  refine Qs0 0 ty81 ?_
  refine Qa ?_
  refine Qa ?_
  refine Qnx ?_
  refine Wp.ret ?_
  refine To.ret ?_
  obtain rfl:=some_in h
  exact To.end3 rfl (Qrc 0 ty81) (rv_t rfl) (rv_t rfl)
 ·refine Qkn ?_
  refine Wp.seq ?_
  refine Qsr ?_
  refine Ql0 1 ty185 ?_
  refine Qm ?_
  obtain ⟨y2,hy2,h⟩:=Qbs h
  refine Qcl en132 (C_cover_covered hy2) ?_
  refine Qnx ?_
  refine Qcd h (fun h=>?_) fun h=>?_
  ·refine Qsr ?_
   refine Qv (r_buildA (b := (default : Vector T_api_Value 4)) (sz := 2) rfl Try.underlying81 (by kernel_rfl) zr81 (.nil)) ?_
   refine Qs0 0 ty81 ?_
   refine Qa ?_
   refine Qa ?_
   refine Qnx ?_
   refine Wp.ret ?_
   refine To.ret ?_
   obtain rfl:=some_in h
   exact To.end3 rfl (Qrc 0 ty81) (rv_t rfl) (rv_t rfl)
  ·refine Qkn ?_
   refine Wp.seq ?_
   refine Qsr ?_
   refine Qm ?_
   refine Qnx ?_
   refine Wp.block ?_
   obtain ⟨e1,hl,h⟩:=Qbs h
   refine Qlp (γ:=Unit) (δ:=Unit) hl [0, 1, 2, 4, 5, 6, 16, 20] (fun s1 g1 => [(7, VP.of (s1.1)), (22, VP.of (s1.2.1))]) (fun s1 g1 => [(1, ⟨some p1, .var (s1.2.2 : T_cube_Cube)⟩)]) (fun q1 => Exit.exit 0) (fun q1 g1 => [(7, VP.of (q1.1)), (22, VP.of (q1.2.1)), (23, VP.of (q1.2.2.1))]) (fun q1 g1 => [(1, ⟨some p1, .var (q1.2.2.2 : T_cube_Cube)⟩)]) () (fun s1 r h g1 => ?_) fun g1 => ?_
   ·clear hl
    refine Qsr ?_
    refine Q2 r_lss ?_
    refine Qns ?_
    refine Qcd h (fun h=>?_) fun h=>?_
    ·refine Qkn ?_
     refine Wp.seq ?_
     refine Wp.block ?_
     refine Qsr ?_
     refine Qm ?_
     refine Qa ?_
     refine Qnr ?_
     refine Ql0 1 ty185 ?_
     refine Qm ?_
     obtain ⟨y3,hy3,h⟩:=Qbs h
     refine Qcl en133 (C_cube_Fix hy3) ?_
     refine Qal zr185 fun p3 => ?_
     refine Qs0 0 ty185 ?_
     refine Qns ?_
     refine Qsr ?_
     refine Ql0 0 ty185 ?_
     refine Ql0 2 ty185 ?_
     refine Q2 (r_eqA eqv185 rfl eqg185 rfl) ?_
     refine Qnx ?_
     refine Qcd h (fun h=>?_) fun h=>?_
     ·refine Wp.exit ?_
      refine To.exit ?_
      refine To.bexit ?_
      refine To.next ?_
      refine Wp.reg ?_
      refine Q2 r_add ?_
      refine Qm ?_
      refine Sq.nil ?_
      obtain rfl:=some_in h
      exact Qrd () 1
     ·refine Qkn ?_
      refine Wp.seq ?_
      refine Qsr ?_
      refine Ql0 0 ty185 ?_
      refine Qm ?_
      obtain ⟨y4,hy4,h⟩:=Qbs h
      refine Qcl en131 (C_cover_near hy4) ?_
      refine Qa ?_
      refine Qnr ?_
      refine Ql0 0 ty185 ?_
      refine Qm ?_
      obtain ⟨y5,hy5,h⟩:=Qbs h
      refine Qcl en132 (C_cover_covered hy5) ?_
      refine Q1 r_not ?_
      refine Qnx ?_
      refine Qcd h (fun h=>?_) fun h=>?_
      ·refine Qsr ?_
       refine Ql0 0 ty185 ?_
       refine Qm ?_
       refine Qs0 2 ty185 ?_
       refine Qa ?_
       refine Qnx ?_
       refine Wp.exit ?_
       refine To.exit ?_
       refine To.bexit ?_
       refine To.next ?_
       refine Wp.reg ?_
       refine Q2 r_add ?_
       refine Qm ?_
       refine Sq.nil ?_
       obtain rfl:=some_in h
       exact Qrd () 1
      ·refine Qkn ?_
       refine Qsr ?_
       refine Ql0 2 ty185 ?_
       refine Qm ?_
       obtain ⟨y6,hy6,h⟩:=Qbs h
       refine Qcl en133 (C_cube_Fix hy6) ?_
       refine Qs0 2 ty185 ?_
       refine Qnx ?_
       refine Wp.reg ?_
       refine Ql0 2 ty185 ?_
       refine Qm ?_
       obtain ⟨y7,hy7,h⟩:=Qbs h
       refine Qcl en131 (C_cover_near hy7) ?_
       refine Qa ?_
       refine Sq.nil ?_
       refine To.bnorm ?_
       refine To.next ?_
       refine Wp.reg ?_
       refine Q2 r_add ?_
       refine Qm ?_
       refine Sq.nil ?_
       obtain rfl:=some_in h
       exact Qrd () 1
    ·refine Wp.exit ?_
     refine To.exit ?_
     obtain rfl:=some_in h
     exact Qlv () 0
   ·clear hl
    refine To.bexit ?_
    refine To.next ?_
    refine Qsr ?_
    refine Q1 (r_fa fd185_0) ?_
    refine Qld 1 le_T_cube_Cube_Value ty81 ?_
    refine Qs0 0 ty81 ?_
    refine Qa ?_
    refine Qa ?_
    refine Qnx ?_
    refine Wp.ret ?_
    obtain rfl:=some_in h
    exact To.end3 rfl (Qrc 0 ty81) (rv_t rfl) (rv_t rfl)
theorem C_shadow_question {x0 : T_api_Schema} {x1 : List T_api_Installed} {x2 : Int}  {r : T_cube_Cube × (List T_cube_Cube) × Int} (h : L_shadow_question x0 x1 x2 = some r) : Meets Try.prog 90 [VP.of (x0), VP.of (x1), VP.of (x2)] (VP.tup [VP.of (r.1), VP.of (r.2.1), VP.of (r.2.2)]) := by
 unfold L_shadow_question at h
 refine Meets.ofM Try.func90 rfl Try.ntmps90 rfl fun W A => ?_
 refine Qsr ?_
 refine Qbx fun p1 => ?_
 refine Qbx fun p2 => ?_
 refine Qal zr185 fun p3 => ?_
 refine Qv (r_asg (look_nil (α := T_cube_Cube))) ?_
 refine Qa ?_
 refine Qnr ?_
 refine Qm ?_
 refine Sq.share (α := Int) 1 5 rfl rfl ?_
 refine Qv (r_clo1 (F := (fun a0 => L_shadow_question_fn1 a0 x2)) (τs := [VP.ptr x2]) en125 ⟨look_t rfl, trivial⟩ (fun _ _ h => C_shadow_question_fn1 h)) ?_
 obtain ⟨y1,hy1,h⟩:=Qbs h
 refine Qcl en117 (C_slices_IndexFunc_api_Installed hy1) ?_
 refine Qa ?_
 refine Qns ?_
 refine Qsr ?_
 refine Qm ?_
 refine Q2 r_lss ?_
 refine Qnx ?_
 refine Qcd h (fun h=>?_) fun h=>?_
 ·refine Qsr ?_
  refine Qbd bu185 zr185 (default : T_cube_Cube) .nil ?_
  refine Qs0 0 ty185 ?_
  refine Qv (r_asg (look_nil (α := T_cube_Cube))) ?_
  refine Qa ?_
  refine Qnx ?_
  refine Wp.ret ?_
  refine To.ret ?_
  obtain rfl:=some_in h
  refine To.endM ?_
  exact To.end3 rfl (Qrc 0 ty185) (rv_t rfl) (rv_t rfl)
 ·refine Qkn ?_
  refine Wp.seq ?_
  obtain ⟨k1,hk1,h⟩:=Qbs h
  obtain ⟨y2,hy2,h⟩:=Qbs h
  refine Wp.draw mixed 8 [some 21, some 22, some 23, some 24, some 25, some 26, some 27, some 28] [[], [], [], [1, 2], [3], [4], [5], [0, 6]] [.val _, .val _, .val _, .val _, .val _, .val _, .val _, .val _] [false, false, false, false, false, false, false, false] (by kernel_rfl) rfl rfl rfl (fun ps1 => ⟨Hl0 2 ty33, Hm, Hm, Hix hk1 Try.underlying84 ty92, Hfp le_T_api_Installed_Entry fd92_0, Hfp le_T_api_Entry_Table fd89_0, H1 (r_loadp ty3), Hcl en126 (C_check_TableOf hy2), trivial⟩) fun ps1 => ?_
  refine Qa ?_
  refine Qns ?_
  refine Qsr ?_
  refine Qm ?_
  refine Q2 r_geq ?_
  refine Qm ?_
  refine Qg1 (r_fa fd33_4) ?_
  refine Qg (fun hb => r_load (i := 2) ((Lens.id T_api_Schema).comp le_T_api_Schema_Tables) (r := x0.f_Tables) ty28 (look_tc rfl hb) rfl rfl rfl) ?_
  refine Qg1 r_move ?_
  obtain ⟨k2,hk2,h⟩:=Qbs h
  refine Qg (fun hb => r_ias (k := k2) Try.underlying28 ty136 (look_tc rfl hb) (look_tc rfl hb) (idx_some (condM_some hk2 hb))) ?_
  refine Qg (fun hb => r_fap le_T_api_Table_Keys fd136_2 (look_tc rfl hb) rfl rfl) ?_
  refine Qg1 (r_loadp ty134) ?_
  obtain ⟨y3,hy3,h⟩:=Qbs h
  refine Qg (fun hb => r_call en127 (C_slices_ContainsFunc_api_Key (condM_some hy3 hb)) ⟨look_tc rfl hb, look_fn1 en128 (fun _ _ => C_shadow_question_fn2), trivial⟩) ?_
  refine Qan ?_
  refine Qnx ?_
  refine Qcd h (fun h=>?_) fun h=>?_
  ·refine Qsr ?_
   refine Qbd bu185 zr185 (default : T_cube_Cube) .nil ?_
   refine Qs0 0 ty185 ?_
   refine Qv (r_asg (look_nil (α := T_cube_Cube))) ?_
   refine Qa ?_
   refine Qnx ?_
   refine Wp.ret ?_
   refine To.ret ?_
   obtain rfl:=some_in h
   refine To.endM ?_
   exact To.end3 rfl (Qrc 0 ty185) (rv_t rfl) (rv_t rfl)
  ·refine Qkn ?_
   refine Wp.seq ?_
   obtain ⟨k3,hk3,h⟩:=Qbs h
   obtain ⟨y4,hy4,h⟩:=Qbs h
   refine Wp.draw mixed 12 [some 42, some 43, some 44, some 45, some 46, some 47, some 48, some 41, some 49, some 50, some 11, none] [[], [], [], [1, 2], [3], [4], [0, 5], [6], [7], [7], [], [8, 10]] [.val _, .val _, .val _, .val _, .val _, .val _, .val _, .val _, .val _, .val _, .new (.var (default : T_cube_Cube)), .stn 10 (.var (y4.1 : T_cube_Cube))] [false, false, false, false, false, false, false, false, false, false, false, true] (by kernel_rfl) rfl rfl rfl (fun ps2 => ⟨Hl0 2 ty33, Hm, Hm, Hix hk3 Try.underlying84 ty92, Hfp le_T_api_Installed_Entry fd92_0, H1 (r_loadp ty89), Hcl en129 (C_cube_Of hy4), Hm, Hxt, Hxt, ao_alloc zr185, ⟨rfl, _, rfl, fun L' q hq => so_var (i := q) (Lens.id T_cube_Cube) (v := (y4.1 : T_cube_Cube)) (b' := (y4.1 : T_cube_Cube)) ty185 (look_t rfl) (look_t rfl) hq rfl rfl⟩, trivial⟩) fun ps2 => ?_
   refine Qa ?_
   refine Qnr ?_
   refine Sq.allocX (z := (default : List T_cube_Cube)) [0] zh186_0 zr186 rfl fun p4 => ?_
   refine Sq.own (α := T_cube_Cube) 185 ?_
   refine Qns ?_
   refine Wp.seq ?_
   obtain ⟨k4,hk4,h⟩:=Qbs h
   obtain ⟨y5,hy5,h⟩:=Qbs h
   refine Wp.draw mixed 7 [some 51, some 52, some 53, some 54, some 55, some 56, some 57] [[], [], [], [], [2, 3], [4], [0, 1, 5]] [.val _, .val _, .val _, .val _, .val _, .val _, .val _] [false, false, false, false, false, false, false] (by kernel_rfl) rfl rfl rfl (fun ps3 => ⟨Hl0 5 ty33, Hm, Hm, Hm, Hix hk4 Try.underlying84 ty92, H1 (r_loadp ty92), Hcl en130 (C_shadow_winners hy5), trivial⟩) fun ps3 => ?_
   refine Qnx ?_
   refine Wp.block ?_
   obtain ⟨e1,hl,h⟩:=Qbs h
   refine range_wp (γ := (Option Nat × Nat)) (g0 := (none, 0)) (Lin := []) (Ls := fun s1 g1 => [⟨g1.1, .row 185 (s1.1 : List T_cube_Cube) g1.2⟩, ⟨some p4, .varX (s1.2 : List T_cube_Cube) [(0, slv g1.1 s1.1.length g1.2)]⟩, ⟨some (ps2 10), .var (y4.1 : T_cube_Cube)⟩, ⟨some p3, .var ((default : T_cube_Cube) : T_cube_Cube)⟩, ⟨none, .dead⟩, ⟨some p1, .var (x0 : T_api_Schema)⟩]) (Lx := fun q1 g1 => Empty.elim q1) (fun q1 => Empty.elim q1) rfl en159 rfl C_shadow_winners_fn1 hl rfl rfl (fun vx1 s1 r h g1 W0' X' A0' l D rec hrs => ?_) (fun s1 hr g1 D => ?_) (fun q1 hr g1 D => ?_)
   ·clear hl
    refine Wp.reg ?_
    refine Qal zr185 fun p5 => ?_
    refine Qs0 0 ty185 ?_
    refine Sq.nil ?_
    refine To.begin 1 rfl hrs ?_
    refine Wp.block ?_
    refine Wp.reg ?_
    refine Qv (r_loadH (i := 4) (q := 0) (β := List T_cube_Cube) (γ := T_cube_Cube) ty186 (look_t rfl) rfl rfl) ?_
    refine Ql0 0 ty185 ?_
    refine Qbl [vx1] Try.underlying186 ty185 zr185 ?_
    obtain ⟨y6,hy6,h⟩:=Qbs h
    refine Qap 3 Try.underlying186 ty185 zr185 hy6 fun key1 cap1 => ?_
    refine Sq.storeH (i := 4) (γ := T_cube_Cube) (b' := ([] : List T_cube_Cube)) (os' := [(0, slv key1 y6.length cap1)]) (Lens.id (List T_cube_Cube)) ty186 (look_t rfl) (look_t rfl) slv_one rfl rfl rfl rfl ?_
    refine Sq.nil ?_
    refine To.bnorm ?_
    obtain rfl:=some_in h
    exact To.rnd (key1, cap1) 1 rfl
   ·clear hl; subst hr; simp only [Sum.elim_inl] at h
    refine To.eqL (L2 := [⟨some D, .dfr⟩, ⟨g1.1, .row 185 (s1.1 : List T_cube_Cube) g1.2⟩, ⟨some p4, .varX (s1.2 : List T_cube_Cube) [(0, slv g1.1 s1.1.length g1.2)]⟩, ⟨some (ps2 10), .var (y4.1 : T_cube_Cube)⟩, ⟨some p3, .var ((default : T_cube_Cube) : T_cube_Cube)⟩, ⟨none, .dead⟩, ⟨some p1, .var (x0 : T_api_Schema)⟩]) rfl ?_
    refine To.bnorm ?_
    refine To.next ?_
    refine Wp.seq ?_
    refine Wp.draw mixed 3 [some 63, some 64, none] [[], [], [0]] [.val _, .val _, .sto 4 (.var (y4.1 : T_cube_Cube))] [false, false, true] (by kernel_rfl) rfl rfl rfl (fun ps4 => ⟨Hl0 3 ty185, Hv fun L' hL => r_loadH (i := 2) (q := 0) (β := List T_cube_Cube) (γ := T_cube_Cube) ty186 (look_t rfl) (hL _ _ rfl (by kernel_rfl)) rfl, ⟨_, _, rfl, fun L' hL => so_var (i := 4) (Lens.id T_cube_Cube) (v := (y4.1 : T_cube_Cube)) (b' := (y4.1 : T_cube_Cube)) ty185 (look_t rfl) (look_t rfl) (hL _ _ rfl) rfl rfl⟩, trivial⟩) fun ps4 => ?_
    refine Qa ?_
    refine Qa ?_
    refine Qnx ?_
    refine Wp.ret ?_
    refine To.thawS (β := List T_cube_Cube) (γ := T_cube_Cube) (b' := (s1.1 : List T_cube_Cube)) (Lens.id (List T_cube_Cube)) 2 1 0 7 rfl rfl rfl rfl rfl rfl rfl ?_
    refine To.fromX 2 rfl ?_
    obtain rfl:=some_in h
    refine To.endD 0 rfl rfl ?_
    exact To.end3 rfl (Qrc 4 ty185) (rv_t rfl) (rv_t rfl)
   ·exact Empty.elim q1
end Go.Proofs.Ytodajdohokmjnaa
